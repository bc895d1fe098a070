/- What a world holds of an abstract state; how it goes on from step to step. -/
import Derived.Test.YtjffljhmjdljeaaGreatGammToldAbsA
import Derived.CallsIn
set_option linter.unusedVariables false
set_option linter.unusedSimpArgs false
namespace Go.Abs
def zvZ (w0:World) (I0 own:Nat→Prop):List Deferred→Prop
 | []=>True
 | [d]=>∃ D,d = { target:=.collected D,args:=#[] }∧w0.heap[D]? = some (.deferred (some []))∧¬own D∧¬I0 D
 | _=>False
structure Ent where
 w0:World
 A0:Nat→Option Nat
 I0:Nat→Prop
 own:Nat→Prop
 ds:List Deferred
 ro:Option Nat
 dk:zvZ w0 I0 own ds
structure Frm (E:Ent) (w:World) (A:Nat→Option Nat) (I:Nat→Prop):Prop where
 size:E.w0.heap.size≤w.heap.size
 keep:∀ b,b<E.w0.heap.size→¬E.own b→w.heap[b]? = E.w0.heap[b]?
 shp:Shp E.w0 w
 os:w.os=E.w0.os
 out:w.output=E.w0.output
 tape:w.tape=E.w0.tape
 IA:∀ b,E.I0 b→I b
 AA:∀ x b,E.A0 x=some b→A x=some b
 IO:∀ b,I b→E.I0 b∨E.own b∨E.w0.heap.size≤b
structure St where
 G:Nat→Option AV
 V:Nat→VS
def VS.on:VS→Prop
 | .live _ _ | .rw _ _ _=>True
 | _=>False
def Holds (E:Ent) (w:World) (A:Nat→Option Nat) (I:Nat→Prop) (x:Nat):VS→Prop
 | .fresh=>A x=none
 | .dead=>True
 | .live T cs=>∃ (b:Nat) (arr:Array Value),A x=some b∧w.heap[b]? = some (.cells arr T (0,0))∧cs.length≤arr.size∧
   (∀ i,i<cs.length→Rep w A I (cs.getD i .nilptr) (arr.getD i undef))∧¬I b∧(E.own b∨E.w0.heap.size≤b)
 | .rw T sz els=>∃ (b:Nat) (arr:Array Value),A x=some b∧w.heap[b]? = some (.cells arr T (0,0))∧Even sz els∧els.length*sz≤arr.size∧
   (∀ i j,i<els.length→j<sz→Rep w A I ((els.getD i []).getD j .nilptr) (arr.getD (i*sz+j) undef))∧¬I b∧(E.own b∨E.w0.heap.size≤b)
structure ConV (E:Ent) (V:Nat→VS) (w:World) (A:Nat→Option Nat) (I:Nat→Prop):Prop where
 hv:∀ x,Holds E w A I x (V x)
 inj:∀ x y b,(V x).on→(V y).on→A x=some b→A y=some b→x=y
 imm:∀ b,I b→b<w.heap.size
structure Con (E:Ent) (N:Nat) (s:St) (a:Act) (w:World) (A:Nat→Option Nat) (I:Nat→Prop):Prop extends ConV E s.V w A I where
 frm:Frm E w A I
 tmps:a.tmps.size=N
 defs:a.defers=E.ds
 G:∀ t v,s.G t=some v→∃ x,a.tmps[t]? = some x∧Rep w A I v x
def Ent.F (E:Ent):Fence:={ fn:=fun _=>True,depth:=none,alive:=false,round:=E.ro }
def Conc (E:Ent) (N:Nat) (s:St) (a:Act) (w:World):Prop:=∃ A I,Con E N s a w A I
structure Up (E:Ent) (w:World) (A:Nat→Option Nat) (I:Nat→Prop) (w':World) (A':Nat→Option Nat) (I':Nat→Prop):Prop where
 shp:Shp w w'
 immk:∀ b,I b→w'.heap[b]? = w.heap[b]?
 size:w.heap.size≤w'.heap.size
 os:w'.os=w.os
 out:w'.output=w.output
 tape:w'.tape=w.tape
 hA:∀ x b,A x=some b→A' x=some b
 hI:∀ b,I b→I' b
 keep:∀ b,b<E.w0.heap.size→¬E.own b→w'.heap[b]? = w.heap[b]?
 IO:∀ b,I' b→I b∨E.own b∨E.w0.heap.size≤b
theorem Up.rep {E:Ent} {w w':World} {A A':Nat→Option Nat} {I I':Nat→Prop} (h:Up E w A I w' A' I') {v:AV} {x:Value} (r:Rep w A I v x):Rep w' A' I' v x:=
 r.mono h.hA h.hI h.immk h.shp
theorem Up.frm {E:Ent} {w w':World} {A A':Nat→Option Nat} {I I':Nat→Prop} (h:Up E w A I w' A' I') (f:Frm E w A I):Frm E w' A' I' where
 size:=Nat.le_trans f.size h.size
 keep b hb ho:=(h.keep b hb ho).trans (f.keep b hb ho)
 shp:=f.shp.trans h.shp
 os:=h.os.trans f.os
 out:=h.out.trans f.out
 tape:=h.tape.trans f.tape
 IA b hb:=h.hI _ (f.IA b hb)
 AA x b hb:=h.hA _ _ (f.AA x b hb)
 IO b hb:=(h.IO b hb).elim (fun k=>f.IO b k) .inr
theorem Holds.up {E:Ent} {w w':World} {A A':Nat→Option Nat} {I I':Nat→Prop} (u:Up E w A I w' A' I') {x:Nat} {v:VS} (h:Holds E w A I x v)
  (hf:A x=none→A' x=none) (hb:∀ b,v.on→A x=some b→w'.heap[b]? = w.heap[b]?∧(I' b→I b)):Holds E w' A' I' x v:=by
 cases v with
 | fresh=>exact hf h
 | dead=>trivial
 | live T cs=>
  obtain ⟨b,arr,h1,h2,h3,h4,h5,h6⟩:=h
  have k:=hb b trivial h1
  exact ⟨b,arr,u.hA _ _ h1,k.1.trans h2,h3,fun i hi=>u.rep (h4 i hi),fun z=>h5 (k.2 z),h6⟩
 | rw T sz els=>
  obtain ⟨b,arr,h1,h2,h3,h4,h5,h6,h7⟩:=h
  have k:=hb b trivial h1
  exact ⟨b,arr,u.hA _ _ h1,k.1.trans h2,h3,h4,fun i j hi hj=>u.rep (h5 i j hi hj),fun z=>h6 (k.2 z),h7⟩
def upd {α:Type} (f:Nat→α) (x:Nat) (v:α):Nat→α:=fun y=>if y=x then v else f y
theorem zT {α:Type} (f:Nat→α) (x:Nat) (v:α):upd f x v x=v:=wc rfl
theorem qn {α:Type} (f:Nat→α) {x y:Nat} (v:α) (h:y≠x):upd f x v y=f y:=we h
def St.set (s:St) (d:Option Nat) (v:Option AV):St:=
 match d with
 | some t=>{ s with G:=upd s.G t v }
 | none=>s
theorem zv0 (a:Act) (d:Nat) (v:Value) (hd:d<a.tmps.size) (t:Nat):(a.put (some d) v).tmps[t]? = if t=d then some v else a.tmps[t]?:=by
 simp only [Act.put,Array.getElem?_setIfInBounds]
 by_cases h:d=t
 ·subst h; simp [hd]
 ·rw [we h,we (fun e=>h e.symm)]
theorem zv1 (a:Act) (d:Option Nat) (v:Value):(a.put d v).tmps.size=a.tmps.size:=by cases d<;>simp [Act.put]
theorem zv2 (a:Act) (d:Option Nat) (v:Value):(a.put d v).defers=a.defers:=by cases d<;>rfl
theorem Con.next {E:Ent} {N:Nat} {s:St} {a:Act} {w w':World} {A A':Nat→Option Nat} {I I':Nat→Prop} (c:Con E N s a w A I) (u:Up E w A I w' A' I')
  (V':Nat→VS) (cv:ConV E V' w' A' I') (d:Option Nat) (v:Option AV) (x:Value) (hd:∀ t,d=some t→t<N) (hx:∀ z,v=some z→Rep w' A' I' z x) :
  Con E N (St.set ⟨s.G,V'⟩ d v) (a.put d x) w' A' I':=by
 have hV:(St.set ⟨s.G,V'⟩ d v).V=V':=by cases d<;>rfl
 refine { toConV:=by rw [hV]; exact cv,frm:=u.frm c.frm,tmps:=(zv1 ..).trans c.tmps,defs:=(zv2 ..).trans c.defs,G:=?_ }
 intro t z hz
 cases d with
 | none=>
  obtain ⟨y,h1,h2⟩:=c.G t z hz
  exact ⟨y,h1,u.rep h2⟩
 | some d=>
  rw [zv0 a d x (by rw [c.tmps]; exact hd d rfl)]
  simp only [St.set] at hz
  by_cases e:t=d
  ·subst e
   rw [zT] at hz
   exact ⟨x,wc rfl,hx z hz⟩
  ·rw [qn _ _ e] at hz
   obtain ⟨y,h1,h2⟩:=c.G t z hz
   exact ⟨y,by rw [we e]; exact h1,u.rep h2⟩
theorem Up.refl (E:Ent) (w:World) (A:Nat→Option Nat) (I:Nat→Prop):Up E w A I w A I:=
 ⟨Shp.refl w,fun _ _=>rfl,Nat.le_refl _,rfl,rfl,rfl,fun _ _ h=>h,fun _ h=>h,fun _ _ _=>rfl,fun _ h=>.inl h⟩
theorem Con.pure {E:Ent} {N:Nat} {s:St} {a:Act} {w:World} {A:Nat→Option Nat} {I:Nat→Prop} (c:Con E N s a w A I) (d:Option Nat) (v:Option AV) (x:Value)
  (hd:∀ t,d=some t→t<N) (hx:∀ z,v=some z→Rep w A I z x):Con E N (s.set d v) (a.put d x) w A I:=
 c.next (.refl E w A I) s.V c.toConV d v x hd hx
theorem Conc.drew {E:Ent} {N:Nat} {s:St} {a:Act} {w:World} (n:Nat) (h:Conc E N s a w):Conc E N s a { w with drawn:=n }:=by
 obtain ⟨A,I,c⟩:=h
 have u:Up E w A I { w with drawn:=n } A I:=⟨Shp.refl w,fun _ _=>rfl,Nat.le_refl _,rfl,rfl,rfl,fun _ _ h=>h,fun _ h=>h,fun _ _ _=>rfl,fun _ h=>.inl h⟩
 exact ⟨A,I,{ hv:=fun x=>(c.hv x).up u id fun _ _ _=>⟨rfl,id⟩,inj:=c.inj,imm:=c.imm,frm:=u.frm c.frm,tmps:=c.tmps,defs:=c.defs,G:=fun t v hv=>let ⟨x,h1,h2⟩:=c.G t v hv; ⟨x,h1,u.rep h2⟩ }⟩
theorem Con.weaken {E:Ent} {N:Nat} {s s':St} {a:Act} {w:World} {A:Nat→Option Nat} {I:Nat→Prop} (c:Con E N s a w A I)
  (hG:∀ t v,s'.G t=some v→∃ z,s.G t=some z∧(∀ x,Rep w A I z x→Rep w A I v x)) (hV:s'.V=s.V):Con E N s' a w A I:=
 {toConV:=by rw [hV]; exact c.toConV,frm:=c.frm,tmps:=c.tmps,defs:=c.defs,
  G:=fun t v hv=>let ⟨z,h1,h2⟩:=hG t v hv; let ⟨x,h3,h4⟩:=c.G t z h1; ⟨x,h3,h2 x h4⟩ }
end Go.Abs
