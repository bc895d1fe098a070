/- Regions: what each operation looks at and writes; operations in the text's order, and in any order. -/
import Derived.Test.YtjffljhmjdljeaaGreatGammToldAbsC
import Derived.TacticsIn
import Derived.OrdersIn
set_option linter.unusedVariables false
set_option linter.unusedSimpArgs false
namespace Go.Abs
structure Ev where
 rs:List Nat
 d:Option Nat
 dv:Option AV
 rv:List Nat
 wv:List (Nat × VS)
def updL (V:Nat→VS):List (Nat × VS)→Nat→VS
 | []=>V
 | (x,v) :: r=>upd (updL V r) x v
def Ev.patch (e:Ev) (s:St):St:=St.set ⟨s.G,updL s.V e.wv⟩ e.d e.dv
def zcf (e:Ev) (s s':St):Prop:=(∀ t ∈ e.rs,s'.G t=s.G t)∧∀ x ∈ e.rv,s'.V x=s.V x
def wpO (F:Fence) (P:Program) (ops:Array Oper) (Q:Exit→Act→World→Prop) (o:Oper) (K:Act→World→Prop) (a:Act) (w:World):Prop:=
 if Region.wanted o (yielded ops a.tmps) then o.wpIn F 0 P a w K Q else K (a.put o.dst undef) w
def Snd (P:Program) (ops:Array Oper) (o:Oper) (N:Nat) (s:St) (e:Ev):Prop:=
 ∀ E s',zcf e s s'→∀ a w,Conc E N s' a w→∀ (K:Act→World→Prop) (Q:Exit→Act→World→Prop),(∀ a' w',Conc E N (e.patch s') a' w'→K a' w')→wpO E.F P ops Q o K a w
def names (e:Ev):List Nat:=e.wv.map (·.1)
def ZM (e f:Ev):Bool:=
 (match e.d with | some t=>f.rs.contains t || f.d == some t | none=>false) ||
 (match f.d with | some t=>e.rs.contains t | none=>false) ||
 (names e).any (fun x=>f.rv.contains x) || (names f).any (fun x=>e.rv.contains x)
def zqy (e:Ev):Bool:=(names e).all fun x=>e.rv.contains x
def qD (ops:List Oper):List (List Nat):=
 ops.foldl (fun acc o=>acc++[o.after.toList.flatMap fun e=>if Region.binds .any e then e.on :: acc.getD e.on [] else []]) []
def zv3 (ops:List Oper):Bool:=(List.range ops.length).all fun i=>((ops.getD i default).after.toList.all fun e=>!Region.binds .any e || e.on<i)
def zqz (ops:List Oper):List Nat:=
 ops.foldl (fun acc o=>acc++[o.after.toList.foldl (fun m e=>if Region.binds .any e then m ||| (2 ^ e.on) ||| acc.getD e.on 0 else m) 0]) []
theorem zv4 (acc:List (List Nat)) (accM:List Nat) (h:∀ j i,(accM.getD j 0).testBit i=true→i ∈ acc.getD j []) (es:List Edge):∀ (m:Nat) (l:List Nat),(∀ i,m.testBit i=true→i ∈ l)→
  ∀ i,(es.foldl (fun m e=>if Region.binds .any e then m ||| (2 ^ e.on) ||| accM.getD e.on 0 else m) m).testBit i=true→i ∈ l++es.flatMap fun e=>if Region.binds .any e then e.on :: acc.getD e.on [] else []:=by
 induction es with
 | nil=>intro m l hm i hi; simpa using hm i hi
 | cons e es ih=>
  intro m l hm i hi
  simp only [List.foldl_cons] at hi
  have:=ih _ (l++if Region.binds .any e then e.on :: acc.getD e.on [] else []) (fun k hk=>?_) i hi
  ·simpa [List.flatMap_cons,List.append_assoc] using this
  ·split at hk
   ·rename_i hb
    simp only [hb,if_true]
    simp only [Nat.testBit_or,Bool.or_eq_true] at hk
    rcases hk with (hk | hk) | hk
    ·exact List.mem_append_left _ (hm k hk)
    ·rw [Nat.testBit_two_pow] at hk
     have:e.on=k:=by simpa using hk
     exact List.mem_append_right _ (this ▸ List.mem_cons_self)
    ·exact List.mem_append_right _ (List.mem_cons_of_mem _ (h _ _ hk))
   ·exact List.mem_append_left _ (hm k hk)
theorem zv5 (ops:List Oper):∀ j i,((zqz ops).getD j 0).testBit i=true→i ∈ (qD ops).getD j []:=by
 have key:∀ (ops:List Oper) (acc:List (List Nat)) (accM:List Nat),accM.length=acc.length→(∀ j i,(accM.getD j 0).testBit i=true→i ∈ acc.getD j [])→
   ∀ j i,((ops.foldl (fun acc o=>acc++[o.after.toList.foldl (fun m e=>if Region.binds .any e then m ||| (2 ^ e.on) ||| acc.getD e.on 0 else m) 0]) accM).getD j 0).testBit i=true→
    i ∈ (ops.foldl (fun acc o=>acc++[o.after.toList.flatMap fun e=>if Region.binds .any e then e.on :: acc.getD e.on [] else []]) acc).getD j []:=by
  intro ops
  induction ops with
  | nil=>intro acc accM _ h; exact h
  | cons o ops ih=>
   intro acc accM hl h
   simp only [List.foldl_cons]
   refine ih _ _ (by simp [hl]) fun j i hi=>?_
   have hed:=zv4 acc accM h o.after.toList 0 [] (fun i hi=>by simp at hi)
   by_cases hj:j<acc.length
   ·have e1:(accM++[o.after.toList.foldl (fun m e=>if Region.binds .any e then m ||| (2 ^ e.on) ||| accM.getD e.on 0 else m) 0]).getD j 0=accM.getD j 0:=by
     simp [List.getD,List.getElem?_append_left (show j<accM.length by omega)]
    have e2:∀ q,(acc++[q]).getD j []=acc.getD j []:=fun q=>by simp [List.getD,List.getElem?_append_left hj]
    rw [e1] at hi; rw [e2]; exact h j i hi
   ·by_cases hj':j=acc.length
    ·have e1:∀ q,(accM++[q]).getD j 0=q:=fun q=>by rw [hj',← hl]; simp [List.getD]
     have e2:∀ q,(acc++[q]).getD j []=q:=fun q=>by rw [hj']; simp [List.getD]
     rw [e1] at hi; rw [e2]; simpa using hed i hi
    ·have e1:∀ q,(accM++[q]).getD j 0=0:=fun q=>by simp [List.getD,List.getElem?_eq_none (show (accM++[q]).length≤j by simp; omega)]
     rw [e1] at hi; simp at hi
 exact key ops [] [] rfl fun j i h=>by simp at h
def zdo (ops:List Oper) (evs:List Ev):Bool:=
 evs.length == ops.length && zv3 ops && evs.all zqy &&
 let an:=zqz ops
 (List.range ops.length).all fun j=>(List.range j).all fun i=>
  (an.getD j 0).testBit i || match evs[i]?,evs[j]? with
  | some e,some f=>!ZM e f
  | _,_=>false
theorem zqA {α:Type} (f:St→Nat→St) (c:St→α) (W:Nat→Bool) (val:Nat→α) (h1:∀ s i,W i=true→c (f s i)=val i) (h2:∀ s i,W i=false→c (f s i)=c s) :
  ∀ (l:List Nat) (s:St),c (l.foldl f s)=match (l.filter W).getLast? with | some i=>val i | none=>c s:=by
 intro l
 induction l with
 | nil=>intro s; rfl
 | cons i l ih=>
  intro s
  simp only [List.foldl_cons]
  rw [ih]
  cases hW:W i with
  | false=>
   simp only [List.filter_cons,hW]
   simp only [Bool.false_eq_true,if_false,h2 s i hW]
  | true=>
   simp only [List.filter_cons,hW,if_true]
   cases hl:l.filter W with
   | nil=>simp [h1 s i hW]
   | cons x r=>
    have:(i :: x :: r).getLast? = (x :: r).getLast?:=by simp [List.getLast?_cons_cons]
    rw [this]
    cases hg:(x :: r).getLast? with
    | none=>simp at hg
    | some y=>rfl
theorem zjo (x:Nat):∀ (l:List (Nat × VS)) (V:Nat→VS),updL V l x=match l.find? (fun p=>p.1 == x) with | some p=>p.2 | none=>V x:=by
 intro l
 induction l with
 | nil=>intro V; rfl
 | cons p r ih=>
  intro V
  obtain ⟨y,v⟩:=p
  simp only [updL,List.find?_cons]
  by_cases h:y=x
  ·subst h; simp [zT]
  ·rw [qn _ _ (fun e=>h e.symm),ih]
   have:(y == x)=false:=by simpa using h
   simp only [this]
theorem zjp (e:Ev) (s:St) (t:Nat):(e.patch s).G t=if e.d=some t then e.dv else s.G t:=by
 unfold Ev.patch St.set
 cases h:e.d with
 | none=>simp
 | some d=>
  by_cases ed:d=t
  ·subst ed; simp [zT]
  ·rw [we (fun k=>ed (Option.some.inj k))]; exact qn _ _ (fun k=>ed k.symm)
theorem zeH (e:Ev) (s:St):(e.patch s).V=updL s.V e.wv:=by
 unfold Ev.patch St.set
 cases e.d<;>rfl
theorem zv6 {s s':St} (h1:∀ t,s.G t=s'.G t) (h2:∀ x,s.V x=s'.V x):s=s':=by
 cases s; cases s'
 simp only [St.mk.injEq]
 exact ⟨funext h1,funext h2⟩
section
variable {P:Program} {N:Nat} (ops:List Oper) (evs:List Ev) (s0:St)
def zr (evs:List Ev) (i:Nat):Ev:=evs.getD i ⟨[],none,none,[],[]⟩
def ZN (evs:List Ev) (s:St) (l:List Nat):St:=l.foldl (fun s i=>(zr evs i).patch s) s
theorem zgW (l:List Nat) (s:St) (t:Nat):(ZN evs s l).G t=match (l.filter fun i=>(zr evs i).d == some t).getLast? with | some i=>(zr evs i).dv | none=>s.G t:=
 zqA (fun s i=>(zr evs i).patch s) (fun s=>s.G t) (fun i=>(zr evs i).d == some t) (fun i=>(zr evs i).dv)
  (fun s i h=>by show ((zr evs i).patch s).G t=_; rw [zjp,wc (by simpa using h)]) (fun s i h=>by show ((zr evs i).patch s).G t=_; rw [zjp,we (by simpa using h)]) l s
theorem zgX (l:List Nat) (s:St) (x:Nat):(ZN evs s l).V x=match (l.filter fun i=>(names (zr evs i)).contains x).getLast? with
  | some i=>(match (zr evs i).wv.find? (fun p=>p.1 == x) with | some p=>p.2 | none=>.dead) | none=>s.V x:=by
 refine zqA (fun s i=>(zr evs i).patch s) (fun s=>s.V x) (fun i=>(names (zr evs i)).contains x) (fun i=>match (zr evs i).wv.find? (fun p=>p.1 == x) with | some p=>p.2 | none=>.dead) ?_ ?_ l s
 ·intro s i h
  show ((zr evs i).patch s).V x=_
  rw [zeH,zjo]
  cases hf:(zr evs i).wv.find? (fun p=>p.1 == x) with
  | some p=>rfl
  | none=>
   simp [names] at h hf
   obtain ⟨v,hv⟩:=h
   exact absurd rfl (hf x v hv)
 ·intro s i h
  show ((zr evs i).patch s).V x=_
  rw [zeH,zjo]
  cases hf:(zr evs i).wv.find? (fun p=>p.1 == x) with
  | none=>rfl
  | some p=>
   have hm:=List.mem_of_find?_eq_some hf
   have hp:=List.find?_some hf
   simp [names] at h hp
   exact absurd (hp ▸ hm) (h p.2)
theorem zqB {e f:Ev} {t:Nat} (he:e.d=some t) (hf:t ∈ f.rs∨f.d=some t):ZM e f=true:=by
 unfold ZM
 rw [he]
 rcases hf with h | h<;>simp [h]
theorem zqC {e f:Ev} {t:Nat} (he:e.d=some t) (hf:t ∈ f.rs∨f.d=some t):ZM f e=true:=by
 unfold ZM
 rcases hf with h | h
 ·simp [he,h]
 ·simp [he,h]
theorem zqD {e f:Ev} {x:Nat} (he:x ∈ names e) (hf:x ∈ f.rv):ZM e f=true:=by
 unfold ZM
 have:(names e).any (fun x=>f.rv.contains x)=true:=List.any_eq_true.2 ⟨x,he,by simpa using hf⟩
 simp only [Bool.or_eq_true]; exact .inl (.inr this)
theorem zqE {e f:Ev} {x:Nat} (he:x ∈ names e) (hf:x ∈ f.rv):ZM f e=true:=by
 unfold ZM
 have:(names e).any (fun x=>f.rv.contains x)=true:=List.any_eq_true.2 ⟨x,he,by simpa using hf⟩
 simp only [Bool.or_eq_true]; exact .inr this
def zjq (ops:List Oper) (p:Nat→Bool):Prop:=∀ j,p j=true→j<ops.length→∀ i ∈ (qD ops).getD j [],p i=true
def zjr (ops:List Oper) (evs:List Ev):Prop:=∀ i j,i<j→j<ops.length→ZM (zr evs i) (zr evs j)=true→i ∈ (qD ops).getD j []
variable {ops evs}
theorem zqF (hap:zjr ops evs) {p:Nat→Bool} (hc:zjq ops p) {i:Nat} (hi:i<ops.length) (hpi:p i=false) (hready:∀ k ∈ (qD ops).getD i [],p k=true)
  (W:Nat→Bool) (hW:∀ k,k≠i→W k=true→ZM (zr evs k) (zr evs i)=true∧ZM (zr evs i) (zr evs k)=true) :
  ∀ k,k<ops.length→k≠i→W k=true→(p k=true↔k<i):=by
 intro k hk hki hWk
 obtain ⟨h1,h2⟩:=hW k hki hWk
 rcases Nat.lt_or_gt_of_ne hki with hlt | hgt
 ·exact ⟨fun _=>hlt,fun _=>hready k (hap k i hlt hi h1)⟩
 ·refine ⟨fun hp=>?_,fun h=>wa⟩
  have:=hc k hp hk i (hap i k hgt hk h2)
  rw [hpi] at this; cases this
theorem zeI (l:List Nat) (p q:Nat→Bool):(l.filter p).filter q=l.filter fun k=>p k && q k:=by
 rw [List.filter_filter]
 congr 1; funext k; rw [Bool.and_comm]
theorem zqG (n i:Nat) (hi:i≤n):(List.range n).filter (fun k=>decide (k<i))=List.range i:=by
 induction n with
 | zero=>have:i=0:=wa; subst this; rfl
 | succ n ih=>
  rw [List.range_succ,List.filter_append]
  by_cases h:i≤n
  ·rw [ih h]; simp [Nat.not_lt_of_le h]
  ·have:i=n+1:=wa
   subst this
   rw [List.range_succ]
   congr 1
   ·exact List.filter_eq_self.2 fun k hk=>by simp at hk ⊢; omega
   ·simp
theorem zv7 (n:Nat) (i:Nat) (hi:i<n) (q:Nat→Bool) (h:∀ k,k<n→q k=true→k≤i) (hqi:q i=true):((List.range n).filter q).getLast? = some i:=by
 have:(List.range n).filter q=((List.range i).filter q)++[i]:=by
  have e1:(List.range n).filter q=((List.range n).filter (fun k=>decide (k<i+1))).filter q:=by
   rw [zeI]
   refine List.filter_congr fun k hk=>?_
   simp at hk
   cases hq:q k with
   | false=>simp
   | true=>have:=h k hk hq; simp; omega
  rw [e1,zqG n (i+1) wa,List.range_succ,List.filter_append]
  simp [hqi]
 rw [this]; simp
theorem zmR {n:Nat} {p q:Nat→Bool} (h:∀ k,k<n→p k=q k):(List.range n).filter p=(List.range n).filter q:=
 List.filter_congr fun k hk=>h k (by simpa using hk)
theorem zv8 (hap:zjr ops evs) {p:Nat→Bool} (hc:zjq ops p) {i:Nat} (hi:i<ops.length) (hpi:p i=false) (hready:∀ k ∈ (qD ops).getD i [],p k=true) :
  zcf (zr evs i) (ZN evs s0 (List.range i)) (ZN evs s0 ((List.range ops.length).filter p)):=by
 have core:∀ W:Nat→Bool,(∀ k,k≠i→W k=true→ZM (zr evs k) (zr evs i)=true∧ZM (zr evs i) (zr evs k)=true)→
   ((List.range ops.length).filter p).filter W=(List.range i).filter W:=by
  intro W hW
  rw [← zqG ops.length i wa,zeI,zeI]
  refine zmR fun k hk=>?_
  by_cases hki:k=i
  ·subst hki; simp [hpi]
  ·cases hw:W k with
   | false=>simp
   | true=>
    have:=zqF hap hc hi hpi hready W hW k hk hki hw
    simp only [Bool.and_true]
    cases hp:p k with
    | true=>simp [this.1 hp]
    | false=>simp; have:¬k<i:=fun h=>(by simp [this.2 h] at hp); omega
 refine ⟨fun t ht=>?_,fun x hx=>?_⟩
 ·rw [zgW,zgW,core (fun k=>(zr evs k).d == some t) fun k _ hk=>?_]
  have hd:(zr evs k).d=some t:=by simpa using hk
  exact ⟨zqB hd (.inl ht),zqC hd (.inl ht)⟩
 ·rw [zgX,zgX,core (fun k=>(names (zr evs k)).contains x) fun k _ hk=>?_]
  have hd:x ∈ names (zr evs k):=by simpa using hk
  exact ⟨zqD hd hx,zqE hd hx⟩
theorem zv9 (hap:zjr ops evs) (hown:∀ i,∀ x ∈ names (zr evs i),x ∈ (zr evs i).rv) {p:Nat→Bool} (hc:zjq ops p) {i:Nat} (hi:i<ops.length) (hpi:p i=false) (hready:∀ k ∈ (qD ops).getD i [],p k=true) :
  (zr evs i).patch (ZN evs s0 ((List.range ops.length).filter p))=ZN evs s0 ((List.range ops.length).filter fun k=>p k || k == i):=by
 have core:∀ W:Nat→Bool,W i=true→(∀ k,k≠i→W k=true→ZM (zr evs k) (zr evs i)=true∧ZM (zr evs i) (zr evs k)=true)→
   (((List.range ops.length).filter fun k=>p k || k == i).filter W).getLast? = some i:=by
  intro W hWi hW
  rw [zeI]
  refine zv7 _ i hi _ (fun k hk hq=>?_) (by simp [hWi])
  by_cases hki:k=i
  ·omega
  ·simp only [Bool.and_eq_true,Bool.or_eq_true,beq_iff_eq] at hq
   have:=(zqF hap hc hi hpi hready W hW k hk hki hq.2).1 (hq.1.resolve_right hki)
   omega
 have other:∀ W:Nat→Bool,W i=false→((List.range ops.length).filter fun k=>p k || k == i).filter W=((List.range ops.length).filter p).filter W:=by
  intro W hWi
  rw [zeI,zeI]
  refine zmR fun k _=>?_
  by_cases hki:k=i
  ·subst hki; simp [hWi]
  ·have:(k == i)=false:=by simpa using hki
   simp [this]
 apply zv6
 ·intro t
  rw [zjp]
  by_cases hd:(zr evs i).d=some t
  ·rw [wc hd,zgW,core (fun k=>(zr evs k).d == some t) (by simp [hd]) fun k _ hk=>?_]
   have hk':(zr evs k).d=some t:=by simpa using hk
   exact ⟨zqB hk' (.inr hd),zqC hk' (.inr hd)⟩
  ·rw [we hd,zgW,zgW,other (fun k=>(zr evs k).d == some t) (by simpa using hd)]
 ·intro x
  by_cases hx:x ∈ names (zr evs i)
  ·have hR:=zgX evs ((List.range ops.length).filter fun k=>p k || k == i) s0 x
   rw [core (fun k=>(names (zr evs k)).contains x) (by simpa using hx) fun k _ hk=>?_] at hR
   rw [hR,zeH,zjo]
   ·cases hf:(zr evs i).wv.find? (fun p=>p.1 == x) with
    | some p=>simp only [hf]
    | none=>
     simp [names] at hx hf
     obtain ⟨v,hv⟩:=hx
     exact absurd rfl (hf x v hv)
   ·have hk':x ∈ names (zr evs k):=by simpa using hk
    exact ⟨zqD hk' (hown i x hx),zqE hk' (hown i x hx)⟩
  ·have hx':(names (zr evs i)).contains x=false:=by simpa using hx
   rw [zgX,other (fun k=>(names (zr evs k)).contains x) hx',← zgX,zeH,zjo]
   cases hf:(zr evs i).wv.find? (fun p=>p.1 == x) with
   | none=>rfl
   | some p=>
    have hm:=List.mem_of_find?_eq_some hf
    have hp:=List.find?_some hf
    simp [names] at hx hp
    exact absurd (hp ▸ hm) (hx p.2)
theorem zwa {n:Nat} {p:Nat→Bool} (h:((List.range n).filter fun k=>!p k).length=0):∀ k,k<n→p k=true:=by
 intro k hk
 have h1:=List.filter_eq_nil_iff.1 (List.eq_nil_of_length_eq_zero h) k (by simpa using hk)
 simpa using h1
theorem zeJ (listed:Array Bool) (i k:Nat) (hi:i<listed.size):(listed.setIfInBounds i true).getD k false=(listed.getD k false || k == i):=by
 by_cases hk:k<listed.size
 ·by_cases e:i=k
  ·subst e; simp [hk]
  ·have e':(k == i)=false:=by simpa using fun h=>e h.symm
   simp [Array.getD,hk,e,e']
 ·have e':(k == i)=false:=by simp; omega
  simp [Array.getD,hk,e']
theorem zqH (md:Region.Mode) (o:Array Oper) (listed:Array Bool) (i:Nat) (h:i ∈ Region.ready md o listed) :
  i<o.size∧listed.getD i true=false∧∃ x,o[i]? = some x∧∀ e ∈ x.after.toList,Region.binds md e=true→listed.getD e.on false=true:=by
 simp only [Region.ready,List.mem_filter,List.mem_range,Bool.and_eq_true,Bool.not_eq_true'] at h
 obtain ⟨h1,h2,h3⟩:=h
 have hx:o[i]? = some o[i]:=Array.getElem?_eq_getElem h1
 rw [hx] at h3
 simp only [Option.map_some,Option.getD_some,Array.all_eq_true_iff_forall_mem] at h3
 refine ⟨h1,h2,o[i],hx,fun e he hb=>?_⟩
 have:=h3 e (by simpa using he)
 simpa [hb] using this
theorem zwb (md:Region.Mode) (o:Array Oper) (listed:Array Bool) (i:Nat) (h1:i<o.size) (h2:listed.getD i true=false) (h3:∀ e ∈ (o[i]).after.toList,Region.binds md e=true→listed.getD e.on false=true) :
  i ∈ Region.ready md o listed:=by
 simp only [Region.ready,List.mem_filter,List.mem_range,Bool.and_eq_true,Bool.not_eq_true']
 have hx:o[i]? = some o[i]:=Array.getElem?_eq_getElem h1
 refine ⟨h1,h2,?_⟩
 rw [hx]
 simp only [Option.map_some,Option.getD_some,Array.all_eq_true_iff_forall_mem]
 intro e he
 cases hb:Region.binds md e with
 | false=>rfl
 | true=>simpa using h3 e (by simpa using he) hb
end
theorem zwc {ops:List Oper} {evs:List Ev} (h:zdo ops evs=true) :
  evs.length=ops.length∧(∀ i (x:Oper),ops[i]? = some x→∀ e ∈ x.after.toList,Region.binds .any e=true→e.on<i)∧
   (∀ i,∀ x ∈ names (zr evs i),x ∈ (zr evs i).rv)∧zjr ops evs:=by
 simp only [zdo,Bool.and_eq_true,beq_iff_eq] at h
 obtain ⟨⟨⟨h1,h2⟩,h3⟩,h4⟩:=h
 refine ⟨h1,?_,?_,?_⟩
 ·intro i x hx e he hb
  have hi:i<ops.length:=(List.getElem?_eq_some_iff.1 hx).1
  have:=List.all_eq_true.1 h2 i (by simpa using hi)
  have hg:ops.getD i default=x:=by simp [List.getD,hx]
  rw [hg] at this
  have:=List.all_eq_true.1 this e he
  simpa [hb] using this
 ·intro i x hx
  by_cases hi:i<evs.length
  ·have hm:zr evs i ∈ evs:=by unfold zr; exact getD_mem' evs i hi
   have:=List.all_eq_true.1 h3 _ hm
   unfold zqy at this
   have:=List.all_eq_true.1 this x hx
   simpa using this
  ·have:zr evs i=⟨[],none,none,[],[]⟩:=by unfold zr; simp [List.getD,Nat.le_of_not_lt hi]
   rw [this] at hx; simp [names] at hx
 ·intro i j hij hj hm
  have:=List.all_eq_true.1 h4 j (by simpa using hj)
  have:=List.all_eq_true.1 this i (by simpa using hij)
  have ei:evs[i]? = some (zr evs i):=by unfold zr; simp [List.getD,List.getElem?_eq_getElem (show i<evs.length by omega)]
  have ej:evs[j]? = some (zr evs j):=by unfold zr; simp [List.getD,List.getElem?_eq_getElem (show j<evs.length by omega)]
  rw [ei,ej] at this
  simp only [hm,Bool.not_true,Bool.or_false] at this
  exact zv5 ops j i this
where
 getD_mem' (l:List Ev) (i:Nat) (h:i<l.length):l.getD i ⟨[],none,none,[],[]⟩ ∈ l:=by simp [List.getD,h]
theorem zmS (l:List Oper):∀ (r:List Oper) ,let an:=qD r
  (qD (r++l)).length=r.length+l.length∧∀ i,i<r.length→(qD (r++l)).getD i []=an.getD i []:=by
 have len:∀ r:List Oper,(qD r).length=r.length:=by
  have go:∀ (q:List Oper) (acc:List (List Nat)),(q.foldl (fun acc (o:Oper)=>acc++[o.after.toList.flatMap fun e=>if Region.binds .any e then e.on :: acc.getD e.on [] else []]) acc).length=acc.length+q.length:=by
   intro q
   induction q with
   | nil=>intro acc; rfl
   | cons o q ih=>intro acc; rw [List.foldl_cons,ih]; simp only [List.length_append,List.length_cons,List.length_nil]; omega
  intro r
  have:=go r []
  simpa [qD] using this
 induction l with
 | nil=>intro r; simp [len]
 | cons o l ih=>
  intro r
  have h:=ih (r++[o])
  simp only [List.append_assoc,List.singleton_append,List.length_append,List.length_cons,List.length_nil] at h
  refine ⟨by simp only [List.length_cons]; omega,fun i hi=>?_⟩
  rw [h.2 i wa]
  have:qD (r++[o])=qD r++[o.after.toList.flatMap fun e=>if Region.binds .any e then e.on :: (qD r).getD e.on [] else []]:=by
   unfold qD; rw [List.foldl_append]; rfl
  rw [this]
  simp [List.getD,List.getElem?_append_left (show i<(qD r).length by rw [len]; exact hi)]
theorem zwd (ops:List Oper) (i:Nat) (o:Oper) (h:ops[i]? = some o) (hb:∀ e ∈ o.after.toList,Region.binds .any e=true→e.on<i) :
  (qD ops).getD i []=o.after.toList.flatMap fun e=>if Region.binds .any e then e.on :: (qD ops).getD e.on [] else []:=by
 have hi:i<ops.length:=(List.getElem?_eq_some_iff.1 h).1
 have hsplit:ops=ops.take i++(o :: ops.drop (i+1)):=by
  have h1:ops.drop i=o :: ops.drop (i+1):=by
   rw [List.drop_eq_getElem_cons hi]
   congr 1
   exact (List.getElem?_eq_some_iff.1 h).2
  rw [← h1,List.take_append_drop]
 have hl:(ops.take i).length=i:=by simp; omega
 have A:=zmS (ops.drop (i+1)) (ops.take i++[o])
 have B:=zmS (o :: ops.drop (i+1)) (ops.take i)
 rw [List.append_assoc,List.singleton_append,← hsplit] at A
 rw [← hsplit] at B
 have e1:=A.2 i (by simp; omega)
 have hlen:(qD (ops.take i)).length=i:=by have:=(zmS [] (ops.take i)).1; simp at this; omega
 have e2:qD (ops.take i++[o])=qD (ops.take i)++[o.after.toList.flatMap fun e=>if Region.binds .any e then e.on :: (qD (ops.take i)).getD e.on [] else []]:=by
  unfold qD; rw [List.foldl_append]; rfl
 rw [e1,e2]
 have e3:∀ (l:List (List Nat)) (x:List Nat),l.length=i→(l++[x]).getD i []=x:=by
  intro l x hl; subst hl; simp [List.getD]
 rw [e3 _ _ hlen]
 have hcongr:∀ (l:List Edge),(∀ e ∈ l,Region.binds .any e=true→e.on<i)→(l.flatMap fun e=>if Region.binds .any e then e.on :: (qD (ops.take i)).getD e.on [] else [])=l.flatMap fun e=>if Region.binds .any e then e.on :: (qD ops).getD e.on [] else []:=by
  intro l hl'
  induction l with
  | nil=>rfl
  | cons e r ih=>
   simp only [List.flatMap_cons]
   rw [ih fun e' h'=>hl' e' (List.mem_cons_of_mem _ h')]
   cases hbe:Region.binds .any e with
   | false=>simp
   | true=>
    have:=B.2 e.on (by rw [hl]; exact hl' e List.mem_cons_self hbe)
    simp only [if_true,this]
 exact hcongr _ hb
theorem zwe {P:Program} {N:Nat} {ops:List Oper} {evs:List Ev} {s0:St} (hok:zdo ops evs=true) {E:Ent} {Q:Exit→Act→World→Prop}
  (hs:∀ i (o:Oper),ops[i]? = some o→Snd P ops.toArray o N (ZN evs s0 (List.range i)) (zr evs i))
  (hQ:∀ a w,Conc E N (ZN evs s0 (List.range ops.length)) a w→Q .normal a w) :
  ∀ (fuel:Nat) (listed:Array Bool) (a:Act) (w:World),listed.size=ops.length→((List.range ops.length).filter fun k=>!listed.getD k false).length=fuel→
   zjq ops (fun k=>listed.getD k false)→Conc E N (ZN evs s0 ((List.range ops.length).filter fun k=>listed.getD k false)) a w→
   wpAnyIn E.F 0 P .any ops.toArray Q fuel listed a w:=by
 obtain ⟨hlen,hedge,hown,hap⟩:=zwc hok
 intro fuel
 induction fuel with
 | zero=>
  intro listed a w hsz hcnt _ hc
  have hall:=zwa hcnt
  refine ⟨?_,hQ a w ?_⟩
  ·refine List.eq_nil_iff_forall_not_mem.2 fun i hi=>?_
   obtain ⟨h1,h2,_⟩:=zqH _ _ _ _ hi
   have:=hall i (by simpa using h1)
   simp at h1
   simp [Array.getD,hsz,h1] at h2 this
   rw [h2] at this; cases this
  ·rw [List.filter_eq_self.2 fun k hk=>hall k (by simpa using hk)] at hc
   exact hc
 | succ fuel ih=>
  intro listed a w hsz hcnt hcl hc
  have getTF:∀ i,i<ops.length→listed.getD i true=listed.getD i false:=fun i hi=>by simp [Array.getD,hsz,hi]
  refine ⟨fun hnil=>?_,fun i hi=>?_⟩
  ·exfalso
   have hne:∃ k,k<ops.length∧listed.getD k false=false:=by
    cases hf:(List.range ops.length).filter fun k=>!listed.getD k false with
    | nil=>rw [hf] at hcnt; simp at hcnt
    | cons x r=>
     have:x ∈ (List.range ops.length).filter fun k=>!listed.getD k false:=by rw [hf]; exact List.mem_cons_self
     simp only [List.mem_filter,List.mem_range,Bool.not_eq_true'] at this
     exact ⟨x,this⟩
   obtain ⟨k,⟨hk1,hk2⟩,hmin⟩:=exists_least (p:=fun k=>k<ops.length∧listed.getD k false=false) hne
   have:k ∈ Region.ready .any ops.toArray listed:=by
    refine zwb _ _ _ _ (by simpa using hk1) (by rw [getTF k hk1]; exact hk2) fun e he hb=>?_
    have hlt:=hedge k ops[k] (List.getElem?_eq_getElem hk1) e (by simpa using he) hb
    cases hv:listed.getD e.on false with
    | true=>rfl
    | false=>have:=hmin e.on ⟨wa,hv⟩; omega
   rw [hnil] at this; cases this
  ·obtain ⟨h1,h2,o,ho,h3⟩:=zqH _ _ _ _ hi
   have hi':i<ops.length:=by simpa using h1
   have ho':ops[i]? = some o:=by simpa using ho
   have hpi:listed.getD i false=false:=by rw [← getTF i hi']; exact h2
   have hready:∀ k ∈ (qD ops).getD i [],listed.getD k false=true:=by
    intro k hk
    rw [zwd ops i o ho' fun e he hb=>hedge i o ho' e he hb] at hk
    obtain ⟨e,he,hk⟩:=List.mem_flatMap.1 hk
    cases hb:Region.binds .any e with
    | false=>simp [hb] at hk
    | true=>
     simp only [hb,if_true] at hk
     have hon:=h3 e he hb
     rcases List.mem_cons.1 hk with h | h
     ·subst h; exact hon
     ·exact hcl e.on hon (by have:=hedge i o ho' e he hb; omega) k h
   have hag:=zv8 (s0:=s0) hap hcl hi' hpi hready
   have hpt:=zv9 (s0:=s0) hap hown hcl hi' hpi hready
   have hw:=hs i o ho' E _ hag a w hc (wpAnyIn E.F 0 P .any ops.toArray Q fuel (listed.setIfInBounds i true)) Q ?_
   ·unfold wpOpIn
    rw [ho]
    unfold wpO at hw
    dsimp only
    split
    ·rename_i hx; rw [wc hx] at hw; exact hw
    ·rename_i hx; rw [we hx] at hw; exact ⟨fun _ _=>trivial,hw⟩
   ·intro a' w' hc'
    have hp':(fun k=>listed.getD k false || k == i)=fun k=>(listed.setIfInBounds i true).getD k false:=by
     funext k; rw [zeJ _ _ _ wa]
    refine ih _ a' w' (by simpa using hsz) ?_ ?_ ?_
    ·have hcount:∀ n,i<n→((List.range n).filter fun k=>!(listed.setIfInBounds i true).getD k false).length+1=((List.range n).filter fun k=>!listed.getD k false).length:=by
      intro n hn
      induction n with
      | zero=>omega
      | succ n ihn=>
       rw [List.range_succ,List.filter_append,List.filter_append,List.length_append,List.length_append]
       by_cases hin:i<n
       ·have:=ihn hin
        have hne:(n == i)=false:=by simp; omega
        have e:(listed.setIfInBounds i true).getD n false=listed.getD n false:=by rw [zeJ _ _ _ wa,hne,Bool.or_false]
        simp only [List.filter_cons,List.filter_nil,e]
        omega
       ·have:n=i:=wa
        subst this
        have e1:(List.range n).filter (fun k=>!(listed.setIfInBounds n true).getD k false)=(List.range n).filter fun k=>!listed.getD k false:=by
         refine zmR fun k hk=>?_
         have hne:(k == n)=false:=by simp; omega
         rw [zeJ _ _ _ wa,hne,Bool.or_false]
        have e2:(listed.setIfInBounds n true).getD n false=true:=by rw [zeJ _ _ _ wa]; simp
        simp only [List.filter_cons,List.filter_nil,e1,e2,hpi]
        simp
     have:=hcount ops.length hi'
     omega
    ·intro j hj hjl k hk
     have hj':(listed.setIfInBounds i true).getD j false=true:=hj
     show (listed.setIfInBounds i true).getD k false=true
     rw [zeJ _ _ _ wa] at hj'
     rw [zeJ _ _ _ wa]
     have hj:=hj'
     simp only [Bool.or_eq_true,beq_iff_eq] at hj ⊢
     rcases hj with hj | hj
     ·exact .inl (hcl j hj hjl k hk)
     ·subst hj; exact .inl (hready k hk)
    ·rw [← hp',← hpt]; exact hc'
theorem zwf {P:Program} {N:Nat} {ops:List Oper} {evs:List Ev} {s0:St} (hm:P.follows .mixedOrders=true) (hok:zdo ops evs=true) {E:Ent} {Q:Exit→Act→World→Prop} {id:Nat}
  (hs:∀ i (o:Oper),ops[i]? = some o→Snd P ops.toArray o N (ZN evs s0 (List.range i)) (zr evs i))
  (hQ:∀ a w,Conc E N (ZN evs s0 (List.range ops.length)) a w→Q .normal a w) {a:Act} {w:World} (hc:Conc E N s0 a w) :
  (Code.region id ops.toArray true).wpIn E.F 0 P Q a w:=by
 refine wpIn_region_any hm (zwe hok hs hQ _ _ _ _ wb ?_ ?_ ?_)
 ·have:((List.range ops.length).filter fun k=>!(Array.replicate ops.toArray.size false).getD k false)=List.range ops.length:=
   List.filter_eq_self.2 fun k hk=>by simp at hk; simp [Array.getD,hk]
  rw [this]; simp
 ·intro j hj hjl
  simp [Array.getD,hjl] at hj
 ·have:((List.range ops.length).filter fun k=>(Array.replicate ops.toArray.size false).getD k false)=[]:=
   List.filter_eq_nil_iff.2 fun k hk=>by simp at hk; simp [Array.getD,hk]
  rw [this]
  exact hc.drew _
end Go.Abs
