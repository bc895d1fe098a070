/- The words of an abstract walk: values by what they hold, with no memory in sight; what it means that a world holds them. -/
import Derived.Deep.MidRow
import Derived.Deep.LoopGhost
import Derived.Orders
import Derived.Below
import Derived.Laws.MakeOwn
set_option linter.unusedVariables false
set_option linter.unusedSimpArgs false
namespace Go.Abs
theorem wa {p:Prop} (h:p:=by omega):p:=h
theorem wb {p:Prop} (h:p:=by simp):p:=h
theorem wc {c:Prop} {h:Decidable c} (k:c) {α:Sort _} {t e:α}:ite c t e=t:=if_pos k
theorem we {c:Prop} {h:Decidable c} (k:¬c) {α:Sort _} {t e:α}:ite c t e=e:=if_neg k
inductive AV where
 | int (k:IntKind) (n:Int)
 | bool (b:Bool)
 | str (s:ByteArray)
 | sl (els:List (List AV))
 | nilsl
 | row (x sz off n:Nat)
 | ptr (x off:Nat)
 | rptr (x sz i off:Nat)
 | iptr (cells:List AV)
 | nilptr
 | fn (f:FuncId) (first caps:List AV)
 | nilfn
 | agg (cells:List AV)
 | tup (vs:List AV)
 | yl (l:Nat)
 | anyf
instance:Inhabited AV:=⟨.nilptr⟩
inductive VS where
 | fresh
 | dead
 | live (T:TypeId) (cells:List AV)
 | rw (T:TypeId) (sz:Nat) (els:List (List AV))
def Even (sz:Nat) (els:List (List AV)):Prop:=∀ e ∈ els,e.length=sz
inductive Rep (w:World) (A:Nat→Option Nat) (I:Nat→Prop):AV→Value→Prop
 | int (k:IntKind) (n:Int):Rep w A I (.int k n) (.int k n)
 | bool (b:Bool):Rep w A I (.bool b) (.bool b)
 | str (s:ByteArray):Rep w A I (.str s) (.string s)
 | sl0 (a:Option Addr) (c:Nat):Rep w A I (.sl []) (.slice a 0 c)
 | sl (els:List (List AV)) (sz b off cap:Nat) (arr:Array Value) (T:TypeId) (fr:Nat × Nat)
   (hI:I b) (hb:w.heap[b]? = some (.cells arr T fr)) (h0:0<els.length) (hc:els.length≤cap) (hs:Even sz els)
   (hz:off+els.length*sz≤arr.size)
   (hr:∀ i j,i<els.length→j<sz→Rep w A I ((els.getD i []).getD j .nilptr) (arr.getD (off+(i*sz+j)) undef)) :
   Rep w A I (.sl els) (.slice (some ⟨b,off,none⟩) els.length cap)
 | nilsl:Rep w A I .nilsl (.slice none 0 0)
 | row (x sz off n cap b:Nat) (arr:Array Value) (T:TypeId) (fr:Nat × Nat) (a:Option Addr) (hA:A x=some b)
   (hb:w.heap[b]? = some (.cells arr T fr)) (hn:n≤cap) (ha:0<cap→a=some ⟨b,off*sz,none⟩) (hc:(off+cap)*sz=arr.size) (hm:off+cap≤maxLen) :
   Rep w A I (.row x sz off n) (.slice a n cap)
 | ptr (x off b:Nat) (hA:A x=some b):Rep w A I (.ptr x off) (.pointer (some ⟨b,off,none⟩))
 | rptr (x sz i off b:Nat) (hA:A x=some b):Rep w A I (.rptr x sz i off) (.pointer (some ⟨b,i*sz+off,none⟩))
 | iptr (cells:List AV) (b off:Nat) (arr:Array Value) (T:TypeId) (fr:Nat × Nat) (hI:I b) (hb:w.heap[b]? = some (.cells arr T fr))
   (hz:off+cells.length≤arr.size)
   (hr:∀ j,j<cells.length→Rep w A I (cells.getD j .nilptr) (arr.getD (off+j) undef)) :
   Rep w A I (.iptr cells) (.pointer (some ⟨b,off,none⟩))
 | nilptr:Rep w A I .nilptr (.pointer none)
 | nilfn:Rep w A I .nilfn .nilFunc
 | fn (f:FuncId) (first caps:List AV) (fs cs:Array Value) (h1:fs.size=first.length) (h2:cs.size=caps.length)
   (hf:∀ i,i<first.length→Rep w A I (first.getD i .nilptr) (fs.getD i undef))
   (hc:∀ i,i<caps.length→Rep w A I (caps.getD i .nilptr) (cs.getD i undef)) :
   Rep w A I (.fn f first caps) (.func (.func f) fs cs)
 | agg (cells:List AV) (vs:Array Value) (hs:vs.size=cells.length)
   (hr:∀ i,i<cells.length→Rep w A I (cells.getD i .nilptr) (vs.getD i undef)):Rep w A I (.agg cells) (.agg vs)
 | tup (l:List AV) (vs:Array Value) (hs:vs.size=l.length)
   (hr:∀ i,i<l.length→Rep w A I (l.getD i .nilptr) (vs.getD i undef)):Rep w A I (.tup l) (.tuple vs)
 | yl (l:Nat):Rep w A I (.yl l) (.func (.yield l) #[] #[])
 | anyf (x:Value) (h:x = .nilFunc∨∃ f a c,x = .func f a c):Rep w A I .anyf x
def Shp (w w':World):Prop:=∀ (b:Nat) (arr:Array Value) (T:TypeId) (fr:Nat × Nat),w.heap[b]? = some (.cells arr T fr)→∃ arr':Array Value,w'.heap[b]? = some (.cells arr' T fr)∧arr'.size=arr.size
theorem Shp.refl (w:World):Shp w w:=fun _ arr _ _ h=>⟨arr,h,rfl⟩
theorem Shp.trans {a b c:World} (h:Shp a b) (k:Shp b c):Shp a c:=fun i arr T fr hb=>
 let ⟨arr',h1,h2⟩:=h i arr T fr hb
 let ⟨arr'',h3,h4⟩:=k i arr' T fr h1
 ⟨arr'',h3,h4.trans h2⟩
theorem Rep.mono {w w':World} {A A':Nat→Option Nat} {I I':Nat→Prop} (hA:∀ x b,A x=some b→A' x=some b) (hI:∀ b,I b→I' b)
  (hw:∀ b,I b→w'.heap[b]? = w.heap[b]?) (hs:Shp w w') {v:AV} {x:Value} (h:Rep w A I v x):Rep w' A' I' v x:=by
 induction h with
 | int k n=>exact .int k n
 | bool b=>exact .bool b
 | str s=>exact .str s
 | sl0 a c=>exact .sl0 a c
 | sl els sz b off cap arr T fr hI' hb h0 hc hsz hz _ ih=>exact .sl els sz b off cap arr T fr (hI _ hI') ((hw _ hI').trans hb) h0 hc hsz hz ih
 | nilsl=>exact .nilsl
 | row x sz off n cap b arr T fr a hA' hb hn ha hc hm=>
  obtain ⟨arr',h1,h2⟩:=hs _ _ _ _ hb
  exact .row x sz off n cap b arr' T fr a (hA _ _ hA') h1 hn ha wa hm
 | ptr x off b h=>exact .ptr x off b (hA _ _ h)
 | rptr x sz i off b h=>exact .rptr x sz i off b (hA _ _ h)
 | iptr cells b off arr T fr hI' hb hz _ ih=>exact .iptr cells b off arr T fr (hI _ hI') ((hw _ hI').trans hb) hz ih
 | nilptr=>exact .nilptr
 | nilfn=>exact .nilfn
 | fn f first caps fs cs h1 h2 _ _ ih1 ih2=>exact .fn f first caps fs cs h1 h2 ih1 ih2
 | agg cells vs h _ ih=>exact .agg cells vs h ih
 | tup cells vs h _ ih=>exact .tup cells vs h ih
 | yl l=>exact .yl l
 | anyf x h=>exact .anyf x h
inductive Ren (ρ:Nat→Option Nat):AV→AV→Prop
 | int (k:IntKind) (n:Int):Ren ρ (.int k n) (.int k n)
 | bool (b:Bool):Ren ρ (.bool b) (.bool b)
 | str (s:ByteArray):Ren ρ (.str s) (.str s)
 | sl (e e':List (List AV)) (h:e.length=e'.length) (hl:∀ i,i<e.length→(e.getD i []).length=(e'.getD i []).length)
   (hr:∀ i j,Ren ρ ((e.getD i []).getD j .nilptr) ((e'.getD i []).getD j .nilptr)):Ren ρ (.sl e) (.sl e')
 | nilsl:Ren ρ .nilsl .nilsl
 | row (x y sz off n:Nat) (h:ρ x=some y):Ren ρ (.row x sz off n) (.row y sz off n)
 | ptr (x y off:Nat) (h:ρ x=some y):Ren ρ (.ptr x off) (.ptr y off)
 | rptr (x y sz i off:Nat) (h:ρ x=some y):Ren ρ (.rptr x sz i off) (.rptr y sz i off)
 | nilptr:Ren ρ .nilptr .nilptr
 | nilfn:Ren ρ .nilfn .nilfn
 | fn (f:FuncId) (a a' c c':List AV) (h1:a.length=a'.length) (h2:c.length=c'.length)
   (ha:∀ i,Ren ρ (a.getD i .nilptr) (a'.getD i .nilptr)) (hc:∀ i,Ren ρ (c.getD i .nilptr) (c'.getD i .nilptr)):Ren ρ (.fn f a c) (.fn f a' c')
 | agg (a a':List AV) (h1:a.length=a'.length) (ha:∀ i,Ren ρ (a.getD i .nilptr) (a'.getD i .nilptr)):Ren ρ (.agg a) (.agg a')
 | tup (a a':List AV) (h1:a.length=a'.length) (ha:∀ i,Ren ρ (a.getD i .nilptr) (a'.getD i .nilptr)):Ren ρ (.tup a) (.tup a')
 | yl (l:Nat):Ren ρ (.yl l) (.yl l)
 | anyf:Ren ρ .anyf .anyf
 | iptr (a a':List AV) (h1:a.length=a'.length) (ha:∀ i,Ren ρ (a.getD i .nilptr) (a'.getD i .nilptr)):Ren ρ (.iptr a) (.iptr a')
def Data (v:AV):Prop:=∀ ρ,Ren ρ v v
theorem Data.int (k:IntKind) (n:Int):Data (.int k n):=fun _=>.int k n
theorem Data.bool (b:Bool):Data (.bool b):=fun _=>.bool b
theorem Data.str (b:ByteArray):Data (.str b):=fun _=>.str b
theorem Data.nilsl:Data .nilsl:=fun _=>.nilsl
theorem Data.nilptr:Data .nilptr:=fun _=>.nilptr
theorem Data.nilfn:Data .nilfn:=fun _=>.nilfn
theorem Data.yl (l:Nat):Data (.yl l):=fun _=>.yl l
theorem Data.agg {l:List AV} (h:∀ i,Data (l.getD i .nilptr)):Data (.agg l):=fun ρ=>.agg _ _ rfl fun i=>h i ρ
theorem Data.tup {l:List AV} (h:∀ i,Data (l.getD i .nilptr)):Data (.tup l):=fun ρ=>.tup _ _ rfl fun i=>h i ρ
theorem Data.sl {l:List (List AV)} (h:∀ i j,Data ((l.getD i []).getD j .nilptr)):Data (.sl l):=fun ρ=>.sl _ _ rfl (fun _ _=>rfl) fun i j=>h i j ρ
theorem Data.fn (f:FuncId):Data (.fn f [] []):=fun _=>.fn _ _ _ _ _ rfl rfl (fun _=>.nilptr) (fun _=>.nilptr)
theorem Data.nil:∀ i,Data (([]:List AV).getD i .nilptr):=fun _=>by simpa using Data.nilptr
theorem Data.cons {v:AV} {l:List AV} (h:Data v) (hl:∀ i,Data (l.getD i .nilptr)):∀ i,Data ((v :: l).getD i .nilptr):=fun i=>by
 cases i with
 | zero=>simpa using h
 | succ i=>simpa using hl i
theorem Data.append {l r:List AV} (hl:∀ i,Data (l.getD i .nilptr)) (hr:∀ i,Data (r.getD i .nilptr)):∀ i,Data ((l++r).getD i .nilptr):=fun i=>by
 by_cases h:i<l.length
 ·have:=hl i; simpa [List.getD,List.getElem?_append_left h] using this
 ·have:=hr (i-l.length); simpa [List.getD,List.getElem?_append_right (Nat.le_of_not_lt h)] using this
theorem Data.map {α:Type} (f:α→List AV) (h:∀ a i,Data ((f a).getD i .nilptr)) (l:List α):∀ i j,Data (((l.map f).getD i []).getD j .nilptr):=fun i j=>by
 by_cases hi:i<l.length
 ·simpa [List.getD,hi] using h (l[i]) j
 ·simpa [List.getD,Nat.le_of_not_lt hi] using Data.nilptr
theorem getD_mem {α:Type} (l:List α) (i:Nat) (d:α) (h:i<l.length):l.getD i d ∈ l:=by simp [List.getD,h]
theorem Rep.ren {w:World} {A A':Nat→Option Nat} {I:Nat→Prop} {ρ:Nat→Option Nat} (hA:∀ x y b,ρ x=some y→A x=some b→A' y=some b) {v:AV} {x:Value} (h:Rep w A I v x) :
  ∀ v',Ren ρ v v'→Rep w A' I v' x:=by
 induction h with
 | int k n=>intro v' r; cases r; exact .int k n
 | bool b=>intro v' r; cases r; exact .bool b
 | str s=>intro v' r; cases r; exact .str s
 | sl0 a c=>
  intro v' r; cases r with
  | sl _ e' h=>cases e' with
   | nil=>exact .sl0 a c
   | cons _ _=>simp at h
 | sl els sz b off cap arr T fr hI' hb h0 hc hsz hz _ ih=>
  intro v' r; cases r with
  | sl _ e' h hl hr=>
   rw [h]
   refine .sl e' sz b off cap arr T fr hI' hb wa wa ?_ (by rw [← h]; exact hz) ?_
   ·intro e he
    obtain ⟨i,hi,rfl⟩:=List.mem_iff_getElem.1 he
    have h1:=hl i wa
    have h2:=hsz _ (getD_mem els i [] wa)
    simp only [List.getD,List.getElem?_eq_getElem hi,Option.getD_some] at h1 h2
    omega
   ·intro i j hi hj
    exact ih i j wa hj _ (hr i j)
 | nilsl=>intro v' r; cases r; exact .nilsl
 | row x sz off n cap b arr T fr a hA' hb hn ha hc hm=>intro v' r; cases r with | row _ y _ _ _ hρ=>exact .row _ sz off n cap b arr T fr a (hA _ _ _ hρ hA') hb hn ha hc hm
 | ptr x off b h=>intro v' r; cases r with | ptr _ y _ hρ=>exact .ptr _ off b (hA _ _ _ hρ h)
 | rptr x sz i off b h=>intro v' r; cases r with | rptr _ y _ _ _ hρ=>exact .rptr _ sz i off b (hA _ _ _ hρ h)
 | iptr cells b off arr T fr hI' hb hz _ ih=>
  intro v' r; cases r with
  | iptr _ a' g1 ha=>exact .iptr _ b off arr T fr hI' hb wa (fun i hi=>ih i wa _ (ha i))
 | nilptr=>intro v' r; cases r; exact .nilptr
 | nilfn=>intro v' r; cases r; exact .nilfn
 | fn f first caps fs cs h1 h2 hf hc ih1 ih2=>
  intro v' r; cases r with
  | fn _ _ a' _ c' g1 g2 ha hc'=>exact .fn f _ _ fs cs wa wa (fun i hi=>ih1 i wa _ (ha i)) (fun i hi=>ih2 i wa _ (hc' i))
 | agg cells vs h _ ih=>
  intro v' r; cases r with
  | agg _ a' g1 ha=>exact .agg _ vs wa (fun i hi=>ih i wa _ (ha i))
 | tup cells vs h _ ih=>
  intro v' r; cases r with
  | tup _ a' g1 ha=>exact .tup _ vs wa (fun i hi=>ih i wa _ (ha i))
 | yl l=>intro v' r; cases r; exact .yl l
 | anyf x h=>intro v' r; cases r; exact .anyf x h
theorem Rep.ren_back {w:World} {A A':Nat→Option Nat} {I:Nat→Prop} {ρ:Nat→Option Nat} (hA:∀ x y b,ρ x=some y→A' y=some b→A x=some b) {v':AV} {x:Value} (h:Rep w A' I v' x) :
  ∀ v,Ren ρ v v'→Rep w A I v x:=by
 induction h with
 | int k n=>intro v r; cases r; exact .int k n
 | bool b=>intro v r; cases r; exact .bool b
 | str s=>intro v r; cases r; exact .str s
 | sl0 a c=>
  intro v r; cases r with
  | sl e _ h=>cases e with
   | nil=>exact .sl0 a c
   | cons _ _=>simp at h
 | sl els sz b off cap arr T fr hI' hb h0 hc hsz hz _ ih=>
  intro v r; cases r with
  | sl e _ h hl hr=>
   rw [← h]
   refine .sl e sz b off cap arr T fr hI' hb wa wa ?_ (by rw [h]; exact hz) ?_
   ·intro e1 he
    obtain ⟨i,hi,rfl⟩:=List.mem_iff_getElem.1 he
    have h1:=hl i hi
    have h2:=hsz _ (getD_mem els i [] wa)
    simp only [List.getD,List.getElem?_eq_getElem hi,Option.getD_some] at h1 h2
    omega
   ·intro i j hi hj
    exact ih i j wa hj _ (hr i j)
 | nilsl=>intro v r; cases r; exact .nilsl
 | row x sz off n cap b arr T fr a hA' hb hn ha hc hm=>intro v r; cases r with | row _ y _ _ _ hρ=>exact .row _ sz off n cap b arr T fr a (hA _ _ _ hρ hA') hb hn ha hc hm
 | ptr x off b h=>intro v r; cases r with | ptr _ y _ hρ=>exact .ptr _ off b (hA _ _ _ hρ h)
 | rptr x sz i off b h=>intro v r; cases r with | rptr _ y _ _ _ hρ=>exact .rptr _ sz i off b (hA _ _ _ hρ h)
 | iptr cells b off arr T fr hI' hb hz _ ih=>
  intro v r; cases r with
  | iptr a _ g1 ha=>exact .iptr _ b off arr T fr hI' hb wa (fun i hi=>ih i wa _ (ha i))
 | nilptr=>intro v r; cases r; exact .nilptr
 | nilfn=>intro v r; cases r; exact .nilfn
 | fn f first caps fs cs h1 h2 hf hc ih1 ih2=>
  intro v r; cases r with
  | fn _ a _ c _ g1 g2 ha hc'=>exact .fn f _ _ fs cs wa wa (fun i hi=>ih1 i wa _ (ha i)) (fun i hi=>ih2 i wa _ (hc' i))
 | agg cells vs h _ ih=>
  intro v r; cases r with
  | agg a _ g1 ha=>exact .agg _ vs wa (fun i hi=>ih i wa _ (ha i))
 | tup cells vs h _ ih=>
  intro v r; cases r with
  | tup a _ g1 ha=>exact .tup _ vs wa (fun i hi=>ih i wa _ (ha i))
 | yl l=>intro v r; cases r; exact .yl l
 | anyf x h=>intro v r; cases r; exact .anyf x h
end Go.Abs
