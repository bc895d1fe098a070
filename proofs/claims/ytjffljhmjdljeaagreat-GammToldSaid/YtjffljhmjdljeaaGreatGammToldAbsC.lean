/- Steps of the world: a new block, a block that is written, a block that stands still from now on. -/
import Derived.Test.YtjffljhmjdljeaaGreatGammToldAbsB
set_option linter.unusedVariables false
set_option linter.unusedSimpArgs false
namespace Go.Abs
theorem zdl (w:World) (o:Obj) (k:Nat) (h:k<w.heap.size):(w.alloc o).heap[k]? = w.heap[k]?:=by
 show (w.heap.push o)[k]? = _
 rw [Array.getElem?_push,we wa]
theorem QE (w:World) (o:Obj):(w.alloc o).heap[w.heap.size]? = some o:=by
 show (w.heap.push o)[w.heap.size]? = _
 simp
theorem zjm (w:World) (o:Obj):(w.alloc o).heap.size=w.heap.size+1:=by
 show (w.heap.push o).size=_
 simp
theorem zdm {w:World} {b:Nat} {o:Obj} (h:w.heap[b]? = some o):b<w.heap.size:=(Array.getElem?_eq_some_iff.1 h).1
theorem zqx (w:World) (o:Obj):Shp w (w.alloc o):=fun b arr _ _ h=>⟨arr,(zdl w o b (zdm h)).trans h,rfl⟩
theorem Con.alloc {E:Ent} {N:Nat} {s:St} {a:Act} {w:World} {A:Nat→Option Nat} {I:Nat→Prop} (c:Con E N s a w A I) (x:Nat) (hx:s.V x = .fresh) (o:Obj) (vs:VS)
  (d:Option Nat) (v:Option AV) (u:Value) (hd:∀ t,d=some t→t<N)
  (hu:∀ z,v=some z→Rep (w.alloc o) (upd A x (some w.heap.size)) I z u)
  (hv:Up E w A I (w.alloc o) (upd A x (some w.heap.size)) I→Holds E (w.alloc o) (upd A x (some w.heap.size)) I x vs) :
  Con E N (St.set ⟨s.G,upd s.V x vs⟩ d v) (a.put d u) (w.alloc o) (upd A x (some w.heap.size)) I:=by
 have hAx:A x=none:=by have:=c.hv x; rw [hx] at this; exact this
 have h0:=c.frm.size
 have hup:Up E w A I (w.alloc o) (upd A x (some w.heap.size)) I:={
  shp:=zqx w o
  immk:=fun b hb=>zdl w o b (c.imm b hb)
  size:=by rw [zjm]; omega
  os:=rfl,out:=rfl,tape:=rfl
  hA:=fun y b hb=>by rw [qn]; exact hb; rintro rfl; rw [hAx] at hb; cases hb
  hI:=fun _ h=>h
  keep:=fun b hb _=>zdl w o b wa
  IO:=fun _ h=>.inl h }
 refine c.next hup _ { hv:=?_,inj:=?_,imm:=fun b hb=>by rw [zjm]; have:=c.imm b hb; omega } d v u hd hu
 ·intro y
  by_cases e:y=x
  ·subst e; rw [zT]; exact hv hup
  ·rw [qn _ _ e]
   refine (c.hv y).up hup (fun h=>by rw [qn _ _ e]; exact h) ?_
   intro b hon hb
   have hlt:b<w.heap.size:=by
    have:=c.hv y
    cases hvy:s.V y with
    | fresh=>rw [hvy] at hon; exact hon.elim
    | dead=>rw [hvy] at hon; exact hon.elim
    | live T cs=>rw [hvy] at this; obtain ⟨b',arr,h1,h2,_⟩:=this; rw [hb] at h1; cases h1; exact zdm h2
    | rw T sz els=>rw [hvy] at this; obtain ⟨b',arr,h1,h2,_⟩:=this; rw [hb] at h1; cases h1; exact zdm h2
   exact ⟨zdl w o b hlt,id⟩
 ·have key:∀ y b,y≠x→(s.V y).on→A y=some b→b<w.heap.size:=by
   intro y b _ hon hb
   have:=c.hv y
   cases hvy:s.V y with
   | fresh=>rw [hvy] at hon; exact hon.elim
   | dead=>rw [hvy] at hon; exact hon.elim
   | live T cs=>rw [hvy] at this; obtain ⟨b',arr,h1,h2,_⟩:=this; rw [hb] at h1; cases h1; exact zdm h2
   | rw T sz els=>rw [hvy] at this; obtain ⟨b',arr,h1,h2,_⟩:=this; rw [hb] at h1; cases h1; exact zdm h2
  intro y z b hy hz hyb hzb
  by_cases e1:y=x<;>by_cases e2:z=x
  ·rw [e1,e2]
  ·subst e1
   rw [zT] at hyb; cases hyb
   rw [qn _ _ e2] at hzb hz
   have:=key z _ e2 hz hzb; omega
  ·subst e2
   rw [zT] at hzb; cases hzb
   rw [qn _ _ e1] at hyb hy
   have:=key y _ e1 hy hyb; omega
  ·rw [qn _ _ e1] at hyb hy
   rw [qn _ _ e2] at hzb hz
   exact c.inj y z b hy hz hyb hzb
theorem zgV {E:Ent} {w:World} {A:Nat→Option Nat} {I:Nat→Prop} {x:Nat} {v:VS} (h:Holds E w A I x v) (hon:v.on) {b:Nat} (hb:A x=some b):b<w.heap.size∧¬I b∧(E.own b∨E.w0.heap.size≤b):=by
 cases v with
 | fresh=>exact hon.elim
 | dead=>exact hon.elim
 | live T cs=>obtain ⟨b',arr,h1,h2,_,_,h5,h6⟩:=h; rw [hb] at h1; cases h1; exact ⟨zdm h2,h5,h6⟩
 | rw T sz els=>obtain ⟨b',arr,h1,h2,_,_,_,h5,h6⟩:=h; rw [hb] at h1; cases h1; exact ⟨zdm h2,h5,h6⟩
theorem Con.still {E:Ent} {N:Nat} {s:St} {a:Act} {w:World} {A:Nat→Option Nat} {I:Nat→Prop} (c:Con E N s a w A I) (o:Obj)
  (d:Option Nat) (v:Option AV) (u:Value) (hd:∀ t,d=some t→t<N)
  (hu:Up E w A I (w.alloc o) A (fun b=>I b∨b=w.heap.size)→∀ z,v=some z→Rep (w.alloc o) A (fun b=>I b∨b=w.heap.size) z u) :
  Con E N (s.set d v) (a.put d u) (w.alloc o) A (fun b=>I b∨b=w.heap.size):=by
 have h0:=c.frm.size
 have hup:Up E w A I (w.alloc o) A (fun b=>I b∨b=w.heap.size):={
  shp:=zqx w o
  immk:=fun b hb=>zdl w o b (c.imm b hb)
  size:=by rw [zjm]; omega
  os:=rfl,out:=rfl,tape:=rfl
  hA:=fun _ _ h=>h
  hI:=fun _ h=>.inl h
  keep:=fun b hb _=>zdl w o b wa
  IO:=fun b h=>h.elim .inl fun e=>.inr (.inr (e ▸ h0)) }
 refine c.next hup s.V { hv:=?_,inj:=c.inj,imm:=fun b hb=>by rw [zjm]; rcases hb with hb | hb; have:=c.imm b hb; omega; omega } d v u hd (hu hup)
 intro y
 refine (c.hv y).up hup id fun b hon hb=>?_
 have hlt:=(zgV (c.hv y) hon hb).1
 exact ⟨zdl w o b hlt,fun h=>h.elim id fun e=>absurd e wa⟩
theorem Con.change {E:Ent} {N:Nat} {s:St} {a:Act} {w w':World} {A:Nat→Option Nat} {I:Nat→Prop} (c:Con E N s a w A I) (x b:Nat) (hon:(s.V x).on) (hb:A x=some b)
  (hk:∀ k,k≠b→w'.heap[k]? = w.heap[k]?) (hs:w'.heap.size=w.heap.size) (hos:w'.os=w.os) (hout:w'.output=w.output) (htape:w'.tape=w.tape)
  (hb':∀ (arr:Array Value) (T:TypeId) (fr:Nat × Nat),w.heap[b]? = some (.cells arr T fr)→∃ arr':Array Value,w'.heap[b]? = some (.cells arr' T fr)∧arr'.size=arr.size) (vs:VS)
  (d:Option Nat) (v:Option AV) (u:Value) (hd:∀ t,d=some t→t<N) (hu:Up E w A I w' A I→∀ z,v=some z→Rep w' A I z u)
  (hv:Up E w A I w' A I→Holds E w' A I x vs) :
  Con E N (St.set ⟨s.G,upd s.V x vs⟩ d v) (a.put d u) w' A I:=by
 have ⟨hlt,hnI,hown⟩:=zgV (c.hv x) hon hb
 have hup:Up E w A I w' A I:={
  shp:=fun k arr T fr h=>by
   by_cases e:k=b
   ·subst e; exact hb' arr T fr h
   ·exact ⟨arr,(hk k e).trans h,rfl⟩
  immk:=fun k h=>hk k fun e=>hnI (e ▸ h)
  size:=wa
  os:=hos,out:=hout,tape:=htape
  hA:=fun _ _ h=>h
  hI:=fun _ h=>h
  keep:=fun k hkl hno=>hk k fun e=>by subst e; rcases hown with h | h; exact hno h; omega
  IO:=fun _ h=>.inl h }
 refine c.next hup _ { hv:=?_,inj:=?_,imm:=fun k h=>by have:=c.imm k h; omega } d v u hd (hu hup)
 ·intro y
  by_cases e:y=x
  ·subst e; rw [zT]; exact hv hup
  ·rw [qn _ _ e]
   refine (c.hv y).up hup id fun k hony hky=>⟨hk k fun ek=>e (c.inj y x b hony hon (ek ▸ hky) hb),id⟩
 ·have key:∀ y,(upd s.V x vs y).on→(s.V y).on:=by
   intro y hy
   by_cases e:y=x
   ·subst e; exact hon
   ·rw [qn _ _ e] at hy; exact hy
  exact fun y z k hy hz=>c.inj y z k (key y hy) (key z hz)
theorem Con.freeze {E:Ent} {N:Nat} {s:St} {a:Act} {w:World} {A:Nat→Option Nat} {I:Nat→Prop} (c:Con E N s a w A I) (x b:Nat) (hon:(s.V x).on) (hb:A x=some b) :
  Up E w A I w A (fun k=>I k∨k=b)∧Con E N ⟨s.G,upd s.V x .dead⟩ a w A (fun k=>I k∨k=b):=by
 have ⟨hlt,hnI,hown⟩:=zgV (c.hv x) hon hb
 have hup:Up E w A I w A (fun k=>I k∨k=b):={
  shp:=Shp.refl w
  immk:=fun _ _=>rfl
  size:=Nat.le_refl _
  os:=rfl,out:=rfl,tape:=rfl
  hA:=fun _ _ h=>h
  hI:=fun _ h=>.inl h
  keep:=fun _ _ _=>rfl
  IO:=fun k h=>h.elim .inl fun e=>.inr (e ▸ hown) }
 refine ⟨hup,{ hv:=?_,inj:=?_,imm:=fun k h=>h.elim (c.imm k) fun e=>e ▸ hlt,frm:=hup.frm c.frm,tmps:=c.tmps,defs:=c.defs,G:=fun t v h=>let ⟨y,h1,h2⟩:=c.G t v h; ⟨y,h1,hup.rep h2⟩ }⟩
 ·intro y
  by_cases e:y=x
  ·subst e; simp only [zT]; trivial
  ·simp only [qn _ _ e]
   refine (c.hv y).up hup id fun k hony hky=>⟨rfl,fun h=>h.elim id fun ek=>absurd (c.inj y x b hony hon (ek ▸ hky) hb) e⟩
 ·have key:∀ y,(upd s.V x .dead y).on→(s.V y).on:=by
   intro y hy
   by_cases e:y=x
   ·subst e; rw [zT] at hy; exact hy.elim
   ·rw [qn _ _ e] at hy; exact hy
  exact fun y z k hy hz=>c.inj y z k (key y hy) (key z hz)
def spl (arr:Array Value):Nat→List Value→Array Value
 | _,[]=>arr
 | o,v :: r=>spl (arr.setIfInBounds o v) (o+1) r
theorem zdn (l:List Value):∀ (arr:Array Value) (o:Nat),(spl arr o l).size=arr.size:=by
 induction l with
 | nil=>intro arr o; rfl
 | cons v r ih=>intro arr o; simp [spl,ih]
theorem getD_set (arr:Array Value) (o:Nat) (v:Value) (j:Nat) (d:Value):(arr.setIfInBounds o v).getD j d=if o=j∧j<arr.size then v else arr.getD j d:=by
 by_cases h:j<arr.size
 ·by_cases e:o=j
  ·subst e; simp [h]
  ·simp [Array.getD,h,e]
 ·simp [Array.getD,h]
theorem zjn (d:Value) (l:List Value):∀ (arr:Array Value) (o:Nat),o+l.length≤arr.size→∀ j,(spl arr o l).getD j d=if o≤j∧j<o+l.length then l.getD (j-o) d else arr.getD j d:=by
 induction l with
 | nil=>intro arr o _ j; simp only [List.length_nil]; rw [we wa]; rfl
 | cons v r ih=>
  intro arr o h j
  simp only [List.length_cons] at h
  simp only [spl]
  rw [ih _ _ (by simp; omega),getD_set]
  by_cases h1:o=j
  ·subst h1
   rw [we wa,wc ⟨rfl,wa⟩,wc wb]
   simp
  ·by_cases h2:o+1≤j∧j<o+1+r.length
   ·rw [wc h2,wc (by simp; omega)]
    obtain ⟨k,hk⟩:∃ k,j-o=k+1:=⟨j-o-1,wa⟩
    have e2:j-(o+1)=k:=wa
    rw [hk,e2]; simp
   ·rw [we h2,we wa,we (by simp; omega)]
theorem zmQ (b:Nat) (l:List Value):∀ (w:World) (o:Nat),(∀ k,k≠b→(w.setCells b o l).heap[k]? = w.heap[k]?)∧(w.setCells b o l).heap.size=w.heap.size∧
  (w.setCells b o l).os=w.os∧(w.setCells b o l).output=w.output∧(w.setCells b o l).tape=w.tape∧
  ∀ (arr:Array Value) (T:TypeId) (fr:Nat × Nat),w.heap[b]? = some (.cells arr T fr)→(w.setCells b o l).heap[b]? = some (.cells (spl arr o l) T fr):=by
 induction l with
 | nil=>intro w o; exact ⟨fun _ _=>rfl,rfl,rfl,rfl,rfl,fun _ _ _ h=>h⟩
 | cons v r ih=>
  intro w o
  obtain ⟨h1,h2,h3,h4,h5,h6⟩:=ih (w.setCell ⟨b,o,none⟩ v) (o+1)
  refine ⟨fun k hk=>?_,?_,h3,h4,h5,fun arr T fr h=>?_⟩
  ·refine (h1 k hk).trans ?_
   simp only [World.setCell,Array.getElem?_modify]
   rw [we (fun e=>hk e.symm)]
  ·refine h2.trans ?_
   simp [World.setCell]
  ·refine (h6 (arr.setIfInBounds o v) T fr ?_)
   simp [World.setCell,Array.getElem?_modify,h]
end Go.Abs
