/- The end of a function: what it hands back, and what it leaves. Copy. -/
import Derived.Test.YtjffljhmjdljeaaGreatGammToldAbsL
set_option linter.unusedVariables false
set_option linter.unusedSimpArgs false
namespace Go.Abs
inductive RV (P:Program) (s:St):ResultVar→AV→Prop
 | tmp (t:Nat) (v:AV) (h:s.G t=some v):RV P s (.tmp t) v
 | agg (t T x off n:Nat) (U:TypeId) (cs:List AV) (hT:Agg P T n) (h:s.G t=some (.ptr x off)) (hx:s.V x = .live U cs) (hl:off+n≤cs.length):RV P s (.cell t T) (ldA cs off n)
 | sca (t T x off:Nat) (U:TypeId) (cs:List AV) (hT:Sca P T) (h:s.G t=some (.ptr x off)) (hx:s.V x = .live U cs) (hl:off<cs.length):RV P s (.cell t T) (ldS cs off)
def rvSem (tmps:Array Value):ResultVar→Sem Value
 | .tmp t=>pure (tmps.getD t undef)
 | .cell a t=>do loadVar t (← asAddr (tmps.getD a undef))
theorem RV.run {P:Program} {E:Ent} {N:Nat} {s:St} {a:Act} {w:World} {A:Nat→Option Nat} {I:Nat→Prop} (c:Con E N s a w A I) {rv:ResultVar} {v:AV} (h:RV P s rv v) :
  ∃ x,(rvSem a.tmps rv).run P w = .ok x w∧Rep w A I v x:=by
 cases h with
 | tmp t v h=>
  obtain ⟨x,h1,h2⟩:=c.G t v h
  refine ⟨x,?_,h2⟩
  simp [rvSem,Array.getD_eq_getD_getElem?,h1]
 | agg t T x off n U cs hT h hx hl=>
  obtain ⟨y,h1,h2⟩:=c.G t _ h
  have hh:=c.hv x
  rw [hx] at hh
  obtain ⟨b,arr,k1,k2,k3,k4,_⟩:=hh
  cases h2 with
  | ptr _ _ b' hA=>
   rw [k1] at hA; cases hA
   obtain ⟨v,hrun,hv⟩:=zjy (k:=off) (o:=0) hT k2 wa hl (by simpa using k4)
   refine ⟨v,?_,hv⟩
   rw [Nat.zero_add] at hrun
   have e:a.tmps.getD t undef = .pointer (some ⟨b,off,none⟩):=by simp [Array.getD_eq_getD_getElem?,h1]
   simp only [rvSem,e,asAddr,Sem.run_bind,Sem.run_pure,Result.andThen_ok,hrun]
 | sca t T x off U cs hT h hx hl=>
  obtain ⟨y,h1,h2⟩:=c.G t _ h
  have hh:=c.hv x
  rw [hx] at hh
  obtain ⟨b,arr,k1,k2,k3,k4,_⟩:=hh
  cases h2 with
  | ptr _ _ b' hA=>
   rw [k1] at hA; cases hA
   obtain ⟨v,hrun,hv⟩:=zjz (k:=off) (o:=0) hT k2 wa hl (by simpa using k4)
   refine ⟨v,?_,hv⟩
   rw [Nat.zero_add] at hrun
   have e:a.tmps.getD t undef = .pointer (some ⟨b,off,none⟩):=by simp [Array.getD_eq_getD_getElem?,h1]
   simp only [rvSem,e,asAddr,Sem.run_bind,Sem.run_pure,Result.andThen_ok,hrun]
theorem zjC (fn:Func) (tmps:Array Value):results fn tmps=(do let vs ← fn.results.mapM (rvSem tmps); pure (if h:vs.size=1 then vs[0] else .tuple vs)):=rfl
theorem zwW {P:Program} {fn:Func} (h:fn.results = #[]) (tmps:Array Value) (w:World):(results fn tmps).run P w = .ok (.tuple #[]) w:=by
 rw [zjC,h]; simp
theorem zwX {P:Program} {fn:Func} {r1:ResultVar} (h:fn.results = #[r1]) {tmps:Array Value} {w:World} {x1:Value} (h1:(rvSem tmps r1).run P w = .ok x1 w):(results fn tmps).run P w = .ok x1 w:=by
 rw [zjC,h]; simp [Sem.run_bind,h1]
theorem zwY {P:Program} {fn:Func} {r1 r2:ResultVar} (h:fn.results = #[r1,r2]) {tmps:Array Value} {w:World} {x1 x2:Value} (h1:(rvSem tmps r1).run P w = .ok x1 w) (h2:(rvSem tmps r2).run P w = .ok x2 w) :
  (results fn tmps).run P w = .ok (.tuple #[x1,x2]) w:=by
 rw [zjC,h]; simp [Sem.run_bind,h1,h2]
theorem zwZ {P:Program} {fn:Func} {r1 r2 r3:ResultVar} (h:fn.results = #[r1,r2,r3]) {tmps:Array Value} {w:World} {x1 x2 x3:Value} (h1:(rvSem tmps r1).run P w = .ok x1 w) (h2:(rvSem tmps r2).run P w = .ok x2 w)
  (h3:(rvSem tmps r3).run P w = .ok x3 w):(results fn tmps).run P w = .ok (.tuple #[x1,x2,x3]) w:=by
 rw [zjC,h]; simp [Sem.run_bind,h1,h2,h3]
inductive Left (V:Nat→VS):Nat→List VS→Prop
 | nil (n:Nat):Left V n []
 | cons {n:Nat} {v:VS} {l:List VS} (h:VSle (V n) v) (k:Left V (n+1) l):Left V n (v :: l)
theorem Left.spec {V:Nat→VS} {n:Nat} {l:List VS} (h:Left V n l):∀ i,VSle (V (n+i)) (ld l i):=by
 induction h with
 | nil n=>intro i; exact .dead _
 | cons h k ih=>
  intro i
  cases i with
  | zero=>exact h
  | succ i=>have:=ih i; rw [Nat.add_assoc,Nat.add_comm 1] at this; exact this
theorem ConV.left {E:Ent} {V V':Nat→VS} {w:World} {A:Nat→Option Nat} {I:Nat→Prop} (c:ConV E V w A I) (h:∀ x,VSle (V x) (V' x)):ConV E V' w A I:=
 ⟨fun x=>(h x).holds (c.hv x),fun x y b hx hy=>c.inj x y b ((h x).on hx) ((h y).on hy),c.imm⟩
section
variable {P:Program} {E:Ent} {N:Nat} {R:Type} {fn:Func} {res:R→AV} {V1:R→List VS} {s:St} {r:R}
theorem leq {a b c:Nat} (h:a=b) (k:b≤c):a≤c:=wa
theorem zm8 (w:World) (D:Nat) (o:Obj) (h:D<w.heap.size):(w.putObj D o).heap[D]? = some o:=by simp [World.putObj,h]
theorem zch (w:World) (D b:Nat) (o:Obj) (h:b≠D):(w.putObj D o).heap[b]? = w.heap[b]?:=by simp only [World.putObj]; rw [Array.getElem?_setIfInBounds_ne wa]
theorem zds (w:World) (D:Nat) (o:Obj):(w.putObj D o).heap.size=w.heap.size:=by simp [World.putObj]
theorem Con.mark {a:Act} {w:World} {A:Nat→Option Nat} {I:Nat→Prop} (c:Con E N s a w A I) (D:Nat) (h:E.ds=[{ target:=.collected D,args:=#[] }]):w.heap[D]? = some (.deferred (some []))∧D<E.w0.heap.size∧¬E.own D∧¬I D:=by
 have k:=E.dk
 rw [h] at k
 obtain ⟨D',h1,h2,h3,h4⟩:=k
 cases h1
 have hlt:D<E.w0.heap.size:=(Array.getElem?_eq_some_iff.1 h2).1
 refine ⟨(c.frm.keep D hlt h3).trans h2,hlt,h3,fun h5=>?_⟩
 rcases c.frm.IO D h5 with h6 | h6 | h6
 ·exact h4 h6
 ·exact h3 h6
 ·omega
theorem Con.shut {a:Act} {w:World} {A:Nat→Option Nat} {I:Nat→Prop} (c:Con E N s a w A I):Con E.out N s { a with defers:=[] } (E.fw w) A I:=by
 have hm:=c.mark
 obtain ⟨w0,A0,I0,own,ds,ro,dk⟩:=E
 match ds,dk with
 | [],_=>exact { hv:=fun x=>(c.hv x).ent fun _ _ _ h=>h,inj:=c.inj,imm:=c.imm,frm:=⟨c.frm.1,c.frm.2,c.frm.3,c.frm.4,c.frm.5,c.frm.6,c.frm.7,c.frm.8,c.frm.9⟩,tmps:=c.tmps,defs:=rfl,G:=c.G }
 | [d],dk=>
  obtain ⟨D,rfl,k1,k2,k3⟩:=dk
  obtain ⟨h1,h2,h3,h4⟩:=hm D rfl
  have hlt:D<w.heap.size:=(Array.getElem?_eq_some_iff.1 h1).1
  have hb:∀ b arr T fr,w.heap[b]? = some (.cells arr T fr)→b≠D:=fun b arr T fr hb e=>by subst e; rw [h1] at hb; cases hb
  have hs:Shp w (w.putObj D (.deferred none)):=fun b arr T fr h=>⟨arr,(zch w D b _ (hb b arr T fr h)).trans h,rfl⟩
  have hrep:∀ v x,Rep w A I v x→Rep (w.putObj D (.deferred none)) A I v x:=fun v x h=>h.mono (fun _ _ h=>h) (fun _ h=>h) (fun b hI=>zch w D b _ fun e=>h4 (e ▸ hI)) hs
  have f:=c.frm
  refine { hv:=fun x=>?_,inj:=c.inj,imm:=fun b hb=>?_,frm:=?_,tmps:=c.tmps,defs:=rfl,G:=fun t v h=>let ⟨x,g1,g2⟩:=c.G t v h; ⟨x,g1,hrep _ _ g2⟩ }
  ·have q:=c.hv x
   generalize s.V x=v at q
   cases v with
   | fresh=>exact q
   | dead=>trivial
   | live T cs=>obtain ⟨b,arr,q1,q2,q3,q4,q5,q6⟩:=q; exact ⟨b,arr,q1,(zch w D b _ (hb _ _ _ _ q2)).trans q2,q3,fun i hi=>hrep _ _ (q4 i hi),q5,q6.imp id fun y=>leq (zds w0 D _) y⟩
   | rw T sz els=>obtain ⟨b,arr,q1,q2,q3,q4,q5,q6,q7⟩:=q; exact ⟨b,arr,q1,(zch w D b _ (hb _ _ _ _ q2)).trans q2,q3,q4,fun i j hi hj=>hrep _ _ (q5 i j hi hj),q6,q7.imp id fun y=>leq (zds w0 D _) y⟩
  ·exact Nat.lt_of_lt_of_eq (c.imm b hb) (zds w D _).symm
  ·have e0:(Ent.out ⟨w0,A0,I0,own,[{ target:=.collected D,args:=#[] }],ro,⟨D,rfl,k1,k2,k3⟩⟩).w0=w0.putObj D (.deferred none):=rfl
   exact {
    size:=leq (zds w0 D _) (Nat.le_trans f.size (Nat.le_of_eq (zds w D _).symm))
    keep:=fun b hbl hno=>by
     have hbl':b<w0.heap.size:=Nat.lt_of_lt_of_eq hbl (zds w0 D _)
     show (w.putObj D (.deferred none)).heap[b]? = (w0.putObj D (.deferred none)).heap[b]?
     by_cases e:b=D
     ·subst e; rw [zm8 w b _ hlt,zm8 w0 b _ h2]
     ·rw [zch w D b _ e,zch w0 D b _ e]; exact f.keep b hbl' hno
    shp:=fun b arr T fr h=>by
     have h':(w0.putObj D (.deferred none)).heap[b]? = some (.cells arr T fr):=h
     have hne:b≠D:=fun e=>by subst e; rw [zm8 w0 b _ h2] at h'; cases h'
     rw [zch w0 D b _ hne] at h'
     obtain ⟨arr',g1,g2⟩:=f.shp b arr T fr h'
     exact ⟨arr',(zch w D b _ hne).trans g1,g2⟩
    os:=f.os,out:=f.out,tape:=f.tape,IA:=f.IA,AA:=f.AA
    IO:=fun b h=>(f.IO b h).imp id fun q=>q.imp id fun y=>leq (zds w0 D _) y }
theorem zjD {v:AV} {e:Exit} (he:e = .normal∨e = .ret) (hl:Left s.V 0 (V1 r)) (hv:AVle v (res r)) (h:∀ E a w A I,Con E N s a w A I→∃ x,(results fn a.tmps).run P w = .ok x w∧Rep w A I v x) :
  TQ E N (some r) e s (fin P fn E res fun r=>ld (V1 r)):=by
 rintro r' hr a w ⟨A,I,c⟩
 cases hr
 have c':=c.shut
 obtain ⟨x,h1,h2⟩:=h _ _ _ A I c'
 have hcv:=c'.toConV.left (V':=ld (V1 r)) fun y=>by have:=hl.spec y; rw [Nat.zero_add] at this; exact this
 have key:zg2 P fn E (res r) (ld (V1 r)) a w:=⟨c.defs,fun D hD=>(c.mark D hD).1,x,A,I,h1,hv _ _ _ _ h2,hcv,c'.frm⟩
 rcases he with rfl | rfl
 ·exact .inl key
 ·exact .inl key
theorem zw0 {e:Exit} (he:e = .normal∨e = .ret) (hl:Left s.V 0 (V1 r)) (hr:fn.results = #[]) (hv:AVle (.tup []) (res r)):TQ E N (some r) e s (fin P fn E res fun r=>ld (V1 r)):=
 zjD he hl hv fun _ _ _ _ _ _=>⟨.tuple #[],zwW hr _ _,.tup [] #[] rfl fun i hi=>by simp at hi⟩
theorem zjE {e:Exit} (he:e = .normal∨e = .ret) (hl:Left s.V 0 (V1 r)) {r1:ResultVar} (hr:fn.results = #[r1]) {v1:AV} (h1:RV P s r1 v1) (hv:AVle v1 (res r)):TQ E N (some r) e s (fin P fn E res fun r=>ld (V1 r)):=
 zjD he hl hv fun _ _ _ _ _ c=>let ⟨x,k1,k2⟩:=h1.run c; ⟨x,zwX hr k1,k2⟩
theorem zw1 {e:Exit} (he:e = .normal∨e = .ret) (hl:Left s.V 0 (V1 r)) {r1 r2:ResultVar} (hr:fn.results = #[r1,r2]) {v1 v2:AV} (h1:RV P s r1 v1) (h2:RV P s r2 v2) (hv:AVle (.tup [v1,v2]) (res r)) :
  TQ E N (some r) e s (fin P fn E res fun r=>ld (V1 r)):=
 zjD he hl hv fun _ a w A I c=>by
  obtain ⟨x1,k1,k2⟩:=h1.run c
  obtain ⟨x2,k3,k4⟩:=h2.run c
  refine ⟨_,zwY hr k1 k3,.tup _ _ rfl fun i hi=>?_⟩
  rcases i with _ | _ | i
  ·simpa using k2
  ·simpa using k4
  ·exact absurd hi wb
theorem zw2 {e:Exit} (he:e = .normal∨e = .ret) (hl:Left s.V 0 (V1 r)) {r1 r2 r3:ResultVar} (hr:fn.results = #[r1,r2,r3]) {v1 v2 v3:AV} (h1:RV P s r1 v1) (h2:RV P s r2 v2) (h3:RV P s r3 v3) (hv:AVle (.tup [v1,v2,v3]) (res r)) :
  TQ E N (some r) e s (fin P fn E res fun r=>ld (V1 r)):=
 zjD he hl hv fun _ a w A I c=>by
  obtain ⟨x1,k1,k2⟩:=h1.run c
  obtain ⟨x2,k3,k4⟩:=h2.run c
  obtain ⟨x3,k5,k6⟩:=h3.run c
  refine ⟨_,zwZ hr k1 k3 k5,.tup _ _ rfl fun i hi=>?_⟩
  rcases i with _ | _ | _ | i
  ·simpa using k2
  ·simpa using k4
  ·simpa using k6
  ·exact absurd hi wb
end
section ops
variable {P:Program} {ops:Array Oper} {o:Oper} {N:Nat} {s:St}
def zav (X:List (List AV)) (off:Nat) (Y:List (List AV)):List (List AV):=X.take off++Y++X.drop (off+Y.length)
theorem zq8 (X:List (List AV)) (off:Nat) (Y:List (List AV)) (h:off+Y.length≤X.length):(zav X off Y).length=X.length:=by simp [zav]; omega
theorem zw3 (X:List (List AV)) (off:Nat) (Y:List (List AV)) (h:off+Y.length≤X.length) (i:Nat):(zav X off Y).getD i []=if off≤i∧i<off+Y.length then Y.getD (i-off) [] else X.getD i []:=by
 simp only [zav,List.getD]
 by_cases h1:i<off
 ·rw [we wa,List.append_assoc,List.getElem?_append_left (by simp; omega),List.getElem?_take_of_lt h1]
 ·by_cases h2:i<off+Y.length
  ·rw [wc ⟨wa,h2⟩,List.append_assoc,List.getElem?_append_right (by simp; omega),List.getElem?_append_left (by simp; omega)]
   congr 2; simp; omega
  ·rw [we wa,List.getElem?_append_right (by simp; omega),List.getElem?_drop]
   congr 2; simp; omega
theorem zw4 (T e sz:Nat) (U:TypeId) (x y:Operand) (xn off n k:Nat) (X els:List (List AV)) (ho:o.op = .call ⟨.builtin .copy,#[x,y],#[T,U]⟩) (hT:P.underlying T=some (.slice e)) (hsz:(P.info? e).map (·.size)=some sz)
  (hd:dlt o N=true) (hw:wnt ops o s.G=some true) (hx:opd s.G x=some (.row xn sz off n)) (hX:s.V xn = .rw e sz X) (hn:off+n≤X.length) (hy:opd s.G y=some (.sl els)) (hev:Even sz els) (hone:∀ e ∈ els,e.all AV.one=true)
  (hk:k=if els.length≤n then els.length else n) :
  Snd P ops o N s ⟨gsl ops o++[x,y].flatMap opr,o.dst,some (.int .i64 k),[xn],[(xn,.rw e sz (zav X off (els.take k)))]⟩:=by
 refine qY (fun t ht=>List.mem_append_left _ ht) hw ?_
 intro E s' hag a w A I c
 have hXn:s'.V xn = .rw e sz X:=(hag.2 xn wb).trans hX
 have hx':=c.opd ((qo hag x fun t ht=>List.mem_append_right _ (by simp; exact .inl ht)).trans hx)
 have hy':=c.opd ((qo hag y fun t ht=>List.mem_append_right _ (by simp; exact .inr ht)).trans hy)
 have hso:(sizeOf e).run P w = .ok sz w:=by
  cases hi:P.info? e with
  | none=>rw [hi] at hsz; cases hsz
  | some i=>rw [hi] at hsz; simp [sizeOf,typeInfo,hi]; simpa using hsz
 have hh:=c.hv xn
 rw [hXn] at hh
 obtain ⟨b,arr,g1,g2,g3,g4,g5,g6,g7⟩:=hh
 have hkm:k=Nat.min els.length n:=by rw [hk]; simp only [Nat.min_def]
 have hkl:k≤els.length:=by rw [hkm]; exact Nat.min_le_left _ _
 have hkn:k≤n:=by rw [hkm]; exact Nat.min_le_right _ _
 have htl:(els.take k).length=k:=by simp; omega
 generalize hq:a.eval x=q at hx'
 cases hx' with
 | row _ _ _ _ capx b' arr' U' fr adx hA hb hnc ha hc hm=>
  rw [g1] at hA; cases hA
  rw [g2] at hb; cases hb
  obtain ⟨l,cap,adv,hye,hl,hfirst,hrep⟩:∃ (l:List Value) (cap:Nat) (adv:Option Addr),a.eval y = .slice adv els.length cap∧l.length=k*sz∧(Builtin.firstCells sz k (.slice adv els.length cap)).run P w = .ok l.toArray w∧
    ∀ i j,i<k→j<sz→Rep w A I ((els.getD i []).getD j .nilptr) (l.getD (i*sz+j) undef):=by
   by_cases h0:0<els.length
   ·obtain ⟨ad,cap,l,h1,h2,h3,h4⟩:=zm7 hy' hev h0 k hkl
    exact ⟨l,cap,some ad,h1,h2,run_firstCells_some w sz k ad els.length cap l h2 h3,h4⟩
   ·have he:els=[]:=List.eq_nil_of_length_eq_zero wa
    subst he
    have hk0:k=0:=by simp at hkl; omega
    subst hk0
    generalize hqy:a.eval y=qy at hy'
    cases hy' with
    | sl0 ad cap=>
     refine ⟨[],cap,ad,rfl,wb,?_,fun i j hi=>wa⟩
     cases ad with
     | none=>simp [Builtin.firstCells]
     | some ad=>exact run_firstCells_some w sz 0 ad 0 cap [] wb (fun j v h=>by simp at h)
    | sl _ _ _ _ _ _ _ _ _ _ h0=>simp at h0
  have hrun:∀ w',(∀ adr,adx=some adr→(storeCells adr l.toArray.toList).run P w = .ok () w')→(adx=none→w'=w)→(Builtin.copy_ #[T,U] o.type #[.slice adx n capx,.slice adv els.length cap]).run P w = .ok (.int .i64 k) w':=by
   intro w' h1 h2
   unfold Builtin.copy_
   simp only [List.getElem?_toArray,List.getElem?_cons_zero,List.getElem?_cons_succ]
   have hf':(Builtin.firstCells sz (Nat.min els.length n) (.slice adv els.length cap)).run P w = .ok l.toArray w:=by rw [← hkm]; exact hfirst
   cases adx with
   | none=>simp [Sem.run_bind,run_underlying hT,Builtin.lenOf,hso,hf',goInt,hkm,h2 rfl]
   | some adr=>
    have h1':(storeCells adr l).run P w = .ok () w':=by simpa using h1 adr rfl
    simp [Sem.run_bind,run_underlying hT,Builtin.lenOf,hso,hf',goInt,hkm,h1']
  have hexec:∀ w',(Builtin.copy_ #[T,U] o.type #[.slice adx n capx,.slice adv els.length cap]).run P w = .ok (.int .i64 k) w'→(execOp a.eval o).run P w = .ok (.value (.int .i64 k)) w':=by
   intro w' h
   simp only [execOp,ho,resolve,invoke,builtin,Sem.run_bind,Sem.run_pure,Result.andThen_ok]
   have e1:Array.map a.eval #[x,y] = #[.slice adx n capx,.slice adv els.length cap]:=by simp [hq,hye]
   rw [e1,h]
   simp
  by_cases hk0:k=0
  ·subst hk0
   have hl0:l=[]:=List.eq_nil_of_length_eq_zero (by simpa using hl)
   subst hl0
   have hsame:zav X off (els.take 0)=X:=by simp [zav]
   rw [hsame]
   refine ⟨.int .i64 (0:Nat),w,A,I,hexec w (hrun w (fun adr _=>by simp [storeCells]) fun _=>rfl),?_⟩
   have hV:updL s'.V [(xn,.rw e sz X)]=s'.V:=by
    funext y; simp only [updL]
    by_cases ey:y=xn
    ·subst ey; rw [zT,hXn]
    ·rw [qn _ _ ey]
   show Con E N (St.set ⟨s'.G,updL s'.V [(xn,.rw e sz X)]⟩ o.dst _) _ _ _ _
   rw [hV]
   exact c.pure o.dst (some (.int .i64 (0:Nat))) _ (qA hd) fun v hv=>by cases hv; exact .int _ _
  ·have hadx:=ha wa
   subst hadx
   have hle:(off+k)*sz≤X.length*sz:=Nat.mul_le_mul_right _ wa
   rw [Nat.add_mul] at hle
   have ht:=zmX g2 (off*sz) (k*sz) wa
   have h1cell:∀ u ∈ l,u.oneCell'=true:=zq6 hone hev hkl hl hrep
   have hst:=run_storeCells_cells (P:=P) b (off*sz) l 0 w (fun j hj=>by simpa using (ht j wa).1) (fun j hj=>by simpa using (ht j wa).2) h1cell
   simp only [Nat.add_zero] at hst
   obtain ⟨k1,k2,k3,k4,k5,k6⟩:=zmQ b l w (off*sz)
   refine ⟨.int .i64 k,w.setCells b (off*sz) l,A,I,hexec _ (hrun _ (fun adr h=>by cases h; exact hst) fun h=>by cases h),?_⟩
   refine c.change xn b (by rw [hXn]; trivial) g1 k1 k2 k3 k4 k5 (fun arr T fr h=>⟨_,k6 arr T fr h,zdn _ _ _⟩) (.rw e sz (zav X off (els.take k))) o.dst (some (.int .i64 k)) _ (qA hd) (fun _ v hv=>by cases hv; exact .int _ _) fun u=>?_
   refine ⟨b,_,g1,k6 arr e (0,0) g2,?_,by rw [zdn,zq8 _ _ _ wa]; exact g4,fun p j hp hj=>?_,g6,g7⟩
   ·intro r hr
    simp only [zav,List.mem_append] at hr
    rcases hr with (h | h) | h
    ·exact g3 r (List.mem_of_mem_take h)
    ·exact hev r (List.mem_of_mem_take h)
    ·exact g3 r (List.mem_of_mem_drop h)
   ·rw [zq8 _ _ _ wa] at hp
    have hlt:p*sz+(j+1)≤X.length*sz:=Zo hp hj
    rw [zw3 _ _ _ wa,zjn _ _ _ _ wa,htl,hl]
    by_cases hin:off≤p∧p<off+k
    ·have h1:off*sz≤p*sz:=Nat.mul_le_mul_right _ hin.1
     have h2:p*sz+(j+1)≤(off+k)*sz:=Zo hin.2 hj
     rw [Nat.add_mul] at h2
     rw [wc hin,wc wa]
     have:=hrep (p-off) j wa hj
     have e1:(els.take k).getD (p-off) []=els.getD (p-off) []:=by simp only [List.getD]; rw [List.getElem?_take_of_lt wa]
     have e2:p*sz+j-off*sz=(p-off)*sz+j:=by rw [Nat.sub_mul]; omega
     rw [e1,e2]; exact u.rep this
    ·rw [we hin,we]
     ·exact u.rep (g5 p j hp hj)
     ·rintro ⟨q1,q2⟩
      by_cases h1:off≤p
      ·have h2:off+k≤p:=wa
       have h3:(off+k)*sz≤p*sz:=Nat.mul_le_mul_right _ h2
       rw [Nat.add_mul] at h3; omega
      ·have h3:p*sz+(j+1)≤off*sz:=Zo wa hj
       omega
end ops
end Go.Abs
