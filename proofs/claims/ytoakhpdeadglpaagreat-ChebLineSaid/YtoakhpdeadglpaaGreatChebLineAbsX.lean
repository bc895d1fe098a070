/- A loop over a function: what its rounds do to names; the function that is ranged over; what stands behind it. -/
import Derived.Test.YtoakhpdeadglpaaGreatChebLineAbsW
import Derived.RangeFuncOwn
set_option linter.unusedVariables false
set_option linter.unusedSimpArgs false
namespace Go.Abs
def NC (w:World) (l:Nat):Prop:=∀ (arr:Array Value) (T:TypeId) (fr:Nat × Nat),w.heap[l]? ≠ some (.cells arr T fr)
theorem NC.of {w:World} {l:Nat} {o:Obj} (h:w.heap[l]? = some o) (ho:o.isCells=false):NC w l:=fun arr T fr e=>by rw [h] at e; cases e; cases ho
theorem NC.shp {w:World} {l:Nat} (h:NC w l) (o:Obj):Shp w (w.putObj l o):=fun b arr T fr hb=>⟨arr,(putObj_other w l b o fun e=>h arr T fr (e ▸ hb)).trans hb,rfl⟩
theorem Rep.put {w:World} {A:Nat→Option Nat} {I:Nat→Prop} {v:AV} {x:Value} (h:Rep w A I v x) {l:Nat} (o:Obj) (hc:NC w l) (hI:¬I l):Rep (w.putObj l o) A I v x:=
 h.mono (fun _ _ h=>h) (fun _ h=>h) (fun b hb=>putObj_other w l b o fun e=>hI (e ▸ hb)) (hc.shp o)
theorem Holds.put {E E':Ent} {w:World} {A:Nat→Option Nat} {I:Nat→Prop} {x:Nat} {v:VS} (h:Holds E w A I x v) {l:Nat} (o:Obj) (hc:NC w l) (hI:¬I l) (ho:∀ b,¬NC w b→(E.own b∨E.w0.heap.size≤b)→(E'.own b∨E'.w0.heap.size≤b)):Holds E' (w.putObj l o) A I x v:=by
 cases v with
 | fresh=>exact h
 | dead=>trivial
 | live T cs=>
  obtain ⟨b,arr,q1,q2,q3,q4,q5,q6⟩:=h
  have hne:b≠l:=fun e=>hc _ _ _ (e ▸ q2)
  exact ⟨b,arr,q1,(putObj_other w l b o hne).trans q2,q3,fun i hi=>(q4 i hi).put o hc hI,q5,ho b (fun h=>h _ _ _ q2) q6⟩
 | rw T sz els=>
  obtain ⟨b,arr,q1,q2,q3,q4,q5,q6,q7⟩:=h
  have hne:b≠l:=fun e=>hc _ _ _ (e ▸ q2)
  exact ⟨b,arr,q1,(putObj_other w l b o hne).trans q2,q3,q4,fun i j hi hj=>(q5 i j hi hj).put o hc hI,q6,ho b (fun h=>h _ _ _ q2) q7⟩
theorem ConV.put {E E':Ent} {V:Nat→VS} {w:World} {A:Nat→Option Nat} {I:Nat→Prop} (c:ConV E V w A I) {l:Nat} (o:Obj) (hc:NC w l) (hI:¬I l) (ho:∀ b,¬NC w b→(E.own b∨E.w0.heap.size≤b)→(E'.own b∨E'.w0.heap.size≤b)):ConV E' V (w.putObj l o) A I:=
 ⟨fun x=>(c.hv x).put o hc hI ho,c.inj,fun b hb=>by rw [putObj_size]; exact c.imm b hb⟩
theorem ConV.ent {E E':Ent} {V:Nat→VS} {w:World} {A:Nat→Option Nat} {I:Nat→Prop} (c:ConV E V w A I) (ho:∀ b,(E.own b∨E.w0.heap.size≤b)→(E'.own b∨E'.w0.heap.size≤b)):ConV E' V w A I:=
 ⟨fun x=>(c.hv x).ent fun b _ _=>ho b,c.inj,c.imm⟩
theorem Frm.putE {E E':Ent} {w:World} {A:Nat→Option Nat} {I:Nat→Prop} (f:Frm E w A I) {l:Nat} (o:Obj) (hw:E'.w0=E.w0.putObj l o) (hA:E'.A0=E.A0) (hI:E'.I0=E.I0) (ho:E'.own=E.own) (hl:l<E.w0.heap.size) (hc:NC E.w0 l) (ho':o.isCells=false):Frm E' (w.putObj l o) A I:=by
 have hs:E'.w0.heap.size=E.w0.heap.size:=by rw [hw,putObj_size]
 have hlt:l<w.heap.size:=Nat.lt_of_lt_of_le hl f.size
 exact {
  size:=by rw [hs,putObj_size]; exact f.size
  keep:=fun b hb hno=>by
   rw [hw]
   by_cases e:b=l
   ·subst e; rw [putObj_same w b o hlt,putObj_same E.w0 b o hl]
   ·rw [putObj_other w l b o e,putObj_other E.w0 l b o e]; exact f.keep b (by omega) (ho ▸ hno)
  shp:=fun b arr T fr h=>by
   rw [hw] at h
   have hne:b≠l:=fun e=>by subst e; rw [putObj_same E.w0 b o hl] at h; cases h; cases ho'
   rw [putObj_other E.w0 l b o hne] at h
   obtain ⟨arr',g1,g2⟩:=f.shp b arr T fr h
   exact ⟨arr',(putObj_other w l b o hne).trans g1,g2⟩
  os:=by rw [hw]; exact f.os
  out:=by rw [hw]; exact f.out
  tape:=by rw [hw]; exact f.tape
  IA:=by rw [hI]; exact f.IA
  AA:=by rw [hA]; exact f.AA
  IO:=fun b h=>by rw [hI,ho,hs]; exact f.IO b h }
theorem Frm.putN {E:Ent} {w:World} {A:Nat→Option Nat} {I:Nat→Prop} (f:Frm E w A I) {l:Nat} (o:Obj) (hl:E.w0.heap.size≤l):Frm E (w.putObj l o) A I where
 size:=by rw [putObj_size]; exact f.size
 keep b hb hno:=(putObj_other w l b o (by omega)).trans (f.keep b hb hno)
 shp b arr T fr h:=by
  obtain ⟨arr',g1,g2⟩:=f.shp b arr T fr h
  have:=lt_of_cells h
  exact ⟨arr',(putObj_other w l b o (by omega)).trans g1,g2⟩
 os:=f.os
 out:=f.out
 tape:=f.tape
 IA:=f.IA
 AA:=f.AA
 IO:=f.IO
theorem Frm.refl (w:World) (A:Nat→Option Nat) (I own:Nat→Prop) (ds:List Deferred) (ro:Option Nat) (dk:DsOK w I own ds):Frm ⟨w,A,I,own,ds,ro,dk⟩ w A I:=
 ⟨Nat.le_refl _,fun _ _ _=>rfl,Shp.refl w,rfl,rfl,rfl,fun _ h=>h,fun _ _ h=>h,fun _ h=>.inl h⟩
theorem Frm.keepo {E:Ent} {w:World} {A:Nat→Option Nat} {I:Nat→Prop} (f:Frm E w A I) {l:Nat} {o:Obj} (h:E.w0.heap[l]? = some o) (hn:¬E.own l):w.heap[l]? = some o:=
 (f.keep l (Array.getElem?_eq_some_iff.1 h).1 hn).trans h
theorem Frm.notI {E:Ent} {w:World} {A:Nat→Option Nat} {I:Nat→Prop} (f:Frm E w A I) {l:Nat} (hl:l<E.w0.heap.size) (hn:¬E.own l) (hi:¬E.I0 l):¬I l:=fun h=>by
 rcases f.IO l h with k | k | k
 ·exact hi k
 ·exact hn k
 ·omega
theorem Con.allocO {E:Ent} {N:Nat} {s:St} {a:Act} {w:World} {A:Nat→Option Nat} {I:Nat→Prop} (c:Con E N s a w A I) (o:Obj):Con E N s a (w.alloc o) A I:=by
 have h0:=c.frm.size
 have hup:Up E w A I (w.alloc o) A I:={
  shp:=shp_alloc w o
  immk:=fun b hb=>alloc_old w o b (c.imm b hb)
  size:=by rw [alloc_size]; omega
  os:=rfl,out:=rfl,tape:=rfl
  hA:=fun _ _ h=>h
  hI:=fun _ h=>h
  keep:=fun b hb _=>alloc_old w o b (by omega)
  IO:=fun _ h=>.inl h }
 have:=c.next hup s.V { hv:=fun y=>(c.hv y).up hup id fun b hon hb=>⟨alloc_old w o b (on_lt (c.hv y) hon hb).1,id⟩,inj:=c.inj,imm:=fun b hb=>by rw [alloc_size]; have:=c.imm b hb; omega } none none undef (fun t h=>by cases h) (fun z h=>by cases h)
 exact this
def YC (P:Program) (E:Ent) (l:Nat) (ns:List Nat) (args:List AV) (M0:List VS) (r:AV) (M1:List VS):Prop:=
 ∀ (w:World) (A A1:Nat→Option Nat) (I:Nat→Prop) (vals:Array Value),vals.size=args.length→(∀ i,i<args.length→Rep w A1 I (args.getD i .nilptr) (vals.getD i undef))→
  ConV ⟨w,A1,I,own0 (lw M0) A1,[],none,trivial⟩ (lw M0) w A1 I→Frm E w A I→(∀ i n,ns[i]? = some n→A1 i=A n)→
  YieldAt Fence.wide 0 P l vals w fun e w'=>∃ v A' I',e = .returned v∧Rep w' A' I' r v∧ConV ⟨w,A1,I,own0 (lw M0) A1,[],none,trivial⟩ (ld M1) w' A' I'∧Frm ⟨w,A1,I,own0 (lw M0) A1,[],none,trivial⟩ w' A' I'
theorem set_get (l:Array Value) (p:Nat) (v:Value) (hp:p<l.size) (t:Nat):(l.setIfInBounds p v)[t]? = if t=p then some v else l[t]?:=by
 rw [Array.getElem?_setIfInBounds]
 by_cases h:p=t
 ·subst h; simp [hp]
 ·rw [if_neg h,if_neg (fun e=>h e.symm)]
theorem lk_map (SL:List (Nat × Nat)) (t:Nat) (v:AV) (h:lk (SL.map fun q=>(q.1,some (.ptr q.2 0))) t=some v):∃ r,(t,r) ∈ SL∧v = .ptr r 0:=by
 induction SL with
 | nil=>cases h
 | cons q SL ih=>
  simp only [List.map_cons,lk] at h
  by_cases e:t=q.1
  ·rw [if_pos e] at h; cases h; subst e; exact ⟨q.2,List.mem_cons_self,rfl⟩
  ·rw [if_neg e] at h
   obtain ⟨r,h1,h2⟩:=ih h
   exact ⟨r,List.mem_cons_of_mem _ h1,h2⟩
theorem yc_of {P:Program} {N:Nat} {Ei:Ent} {l D p:Nat} {fn:FuncId} {tmps:Array Value} {assign body:Code} {ns:List Nat} {arg:AV} {Mr M2:List VS} {Mi L1:_} {M1:LV} (SL:List (Nat × Nat))
  (hl:Ei.w0.heap[l]? = some (.loop { state:=.ready,pending:=none,fn,tmps,params:=#[p],assign,body,defers:=D })) (hlo:¬Ei.own l) (hli:¬Ei.I0 l) (hN:tmps.size=N) (hp:p<N)
  (hS:∀ t r,(t,r) ∈ SL→∃ n b,ns[r]? = some n∧Ei.A0 n=some b∧tmps[t]? = some (.pointer (some ⟨b,0,none⟩))∧t≠p) (hMi:lv Mi=lw Mr)
  (ha:∀ E,(∀ x,Mr.length≤x→E.A0 x=none)→T P E N (some ()) assign (mkS ((p,some arg) :: SL.map fun q=>(q.1,some (.ptr q.2 0))) Mi) (fun _ e a w=>e = .normal∧Conc E N (mkS L1 M1) a w))
  (hb:∀ E,(∀ x,Mr.length≤x→E.A0 x=none)→T P E N (some ()) body (mkS L1 M1) (fun _ e _ w=>e = .normal∧∃ A I,ConV E (ld M2) w A I∧Frm E w A I)):YC P Ei l ns [arg] Mr (.bool true) M2:=by
 intro w A A1 I vals hsz hv cv fm hns
 obtain ⟨rec,hrec⟩:∃ rec:LoopState→Option Code→Loop,rec=fun st pe=>{ state:=st,pending:=pe,fn,tmps,params:=#[p],assign,body,defers:=D }:=⟨_,rfl⟩
 have hl':Ei.w0.heap[l]? = some (.loop (rec .ready none)):=by rw [hrec]; exact hl
 have hlw:=fm.keepo hl' hlo
 have hlt:l<w.heap.size:=(Array.getElem?_eq_some_iff.1 hlw).1
 have hlI:¬I l:=fm.notI (Array.getElem?_eq_some_iff.1 hl').1 hlo hli
 have hlc:NC w l:=NC.of hlw rfl
 have hy:=run_yield (P:=P) (args:=vals) hlw (by rw [hrec]; simpa using hsz)
 have hno:¬own0 (lw Mr) A1 l:=fun ⟨x,hon,hx⟩=>by
  have:=cv.hv x
  generalize lw Mr x=u at this hon
  cases u with
  | fresh=>exact hon
  | dead=>exact hon
  | live T cs=>obtain ⟨b,arr,h1,h2,_⟩:=this; rw [hx] at h1; cases h1; exact hlc _ _ _ h2
  | rw T sz els=>obtain ⟨b,arr,h1,h2,_⟩:=this; rw [hx] at h1; cases h1; exact hlc _ _ _ h2
 have hA0:∀ x,Mr.length≤x→A1 x=none:=fun x hx=>by have:=cv.hv x; rw [lw_out Mr x hx] at this; exact this
 obtain ⟨v0,hv0⟩:∃ v0,vals = #[v0]:=by
  have:vals.size=1:=by simpa using hsz
  exact ⟨vals[0],by
   apply Array.ext
   ·simpa using this
   ·intro i h1 h2
    have:i=0:=by simp at h2; omega
    subst this; simp⟩
 have hrep0:Rep w A1 I arg v0:=by have:=hv 0 (by simp); subst hv0; simpa using this
 let E1:Ent:=⟨w,A1,I,own0 (lw Mr) A1,[],some l,trivial⟩
 have htm:((#[p]:Array Nat).zip vals).foldl (fun t (q:Nat × Value)=>t.setIfInBounds q.1 q.2) tmps=tmps.setIfInBounds p v0:=by subst hv0; simp
 have c0:Conc E1 N (mkS ((p,some arg) :: SL.map fun q=>(q.1,some (.ptr q.2 0))) Mi) { tmps:=tmps.setIfInBounds p v0,defers:=[] } w:=by
  refine ⟨A1,I,{ toConV:=?_,frm:=Frm.refl _ _ _ _ _ _ _,tmps:=by simpa using hN,defs:=rfl,G:=fun t v ht=>?_ }⟩
  ·show ConV E1 (lv Mi) w A1 I
   rw [hMi]; exact cv.ent fun b h=>h
  ·have ht':lk ((p,some arg) :: SL.map fun q=>(q.1,some (.ptr q.2 0))) t=some v:=ht
   show ∃ x,(tmps.setIfInBounds p v0)[t]? = some x∧_
   rw [set_get _ _ _ (by omega)]
   simp only [lk] at ht'
   by_cases e:t=p
   ·rw [if_pos e] at ht' ⊢; cases ht'; exact ⟨v0,rfl,hrep0⟩
   ·rw [if_neg e] at ht' ⊢
    obtain ⟨r,h1,rfl⟩:=lk_map SL t v ht'
    obtain ⟨n,b,k1,k2,k3,_⟩:=hS t r h1
    exact ⟨_,k3,.ptr _ _ _ ((hns r n k1).trans (fm.AA n b k2))⟩
 refine ⟨fn,tmps.setIfInBounds p v0,assign,body,?_,?_⟩
 ·rw [hy,hrec]
  show Result.ok (Next.round l fn (((#[p]:Array Nat).zip vals).foldl (fun t (q:Nat × Value)=>t.setIfInBounds q.1 q.2) tmps) assign body) w=_
  rw [htm]
 refine roundIn_of_wpIn trivial ?_
 refine wpIn_mono (ha E1 hA0 () rfl _ w c0) ?_
 rintro e a1 w1 ⟨rfl,A2,I2,c1⟩
 have hl1:w1.heap[l]? = some (.loop (rec .ready none)):=c1.frm.keepo (E:=E1) hlw hno
 have hI2:¬I2 l:=c1.frm.notI hlt hno hlI
 have hc1:NC w1 l:=NC.of hl1 rfl
 have hbeg:=run_beginRound (P:=P) hl1 (by rw [hrec])
 refine ⟨_,hbeg,?_⟩
 obtain ⟨ob,hob⟩:∃ ob:Obj,ob = .loop { rec .ready none with state:=.busy }:=⟨_,rfl⟩
 have hobc:ob.isCells=false:=by rw [hob]; rfl
 rw [← hob]
 let E2:Ent:=⟨w.putObj l ob,A1,I,own0 (lw Mr) A1,[],some l,trivial⟩
 have hsz2:E2.w0.heap.size=w.heap.size:=putObj_size w l ob
 have c2:Conc E2 N (mkS L1 M1) a1 (w1.putObj l ob):=
  ⟨A2,I2,{ toConV:=c1.toConV.put ob hc1 hI2 (fun b _ h=>h.imp id fun k=>(by rw [hsz2]; exact k)),frm:=c1.frm.putE ob rfl rfl rfl rfl hlt hlc hobc,tmps:=c1.tmps,defs:=c1.defs,G:=fun t v h=>let ⟨x,g1,g2⟩:=c1.G t v h; ⟨x,g1,g2.put ob hc1 hI2⟩ }⟩
 refine wpIn_mono (hb E2 hA0 () rfl _ _ c2) ?_
 rintro e a3 w3 ⟨rfl,A3,I3,cv3,fm3⟩
 have hlt2:l<E2.w0.heap.size:=by rw [hsz2]; exact hlt
 have hl2:E2.w0.heap[l]? = some ob:=putObj_same w l ob hlt
 have hl3:=fm3.keepo hl2 hno
 have hI3:¬I3 l:=fm3.notI hlt2 hno hlI
 have hc3:NC w3 l:=NC.of hl3 hobc
 rw [hob] at hl3
 have hend:=run_endRound (P:=P) none hl3
 obtain ⟨oc,hoc⟩:∃ oc:Obj,oc = .loop (rec .ready none):=⟨_,rfl⟩
 have hocc:oc.isCells=false:=by rw [hoc]; rfl
 have hback:(w.putObj l ob).putObj l oc=w:=by
  show { w with heap:=(w.heap.setIfInBounds l ob).setIfInBounds l oc } = w
  have hw2:(w.heap.setIfInBounds l ob).setIfInBounds l oc=w.heap:=by
   apply Array.ext_getElem?
   intro i
   rw [Array.getElem?_setIfInBounds,Array.getElem?_setIfInBounds]
   split
   ·rename_i e; subst e; rw [hlw,hoc]; simp [hlt]
   ·rfl
  rw [hw2]
 have hrec':({ { rec .ready none with state:=.busy } with state:=.ready,pending:=none } : Loop)=rec .ready none:=by rw [hrec]
 refine ⟨_,_,hend,_,A3,I3,rfl,.bool true,?_,?_⟩
 ·simp only [Option.isNone_none,if_true,hrec',← hoc]
  refine cv3.put oc hc3 hI3 fun b _ h=>h.imp id fun k=>?_
  rw [hsz2] at k; exact k
 ·simp only [Option.isNone_none,if_true,hrec',← hoc]
  exact fm3.putE oc (E':=⟨w,A1,I,own0 (lw Mr) A1,[],none,trivial⟩) hback.symm rfl rfl rfl hlt2 (NC.of hl2 hobc) hocc
instance {l:Nat} : Rn (.yl l):=⟨fun _ _ _=>.yl _⟩
theorem YieldAt.round {F:Fence} {n:Nat} {P:Program} {l:Nat} {f:FuncId} {tmps:Array Value} {assign body:Code} {w:World} {R:Ending→World→Prop} (h:RoundIn F n P l f tmps assign body w R) (ro:Option Nat):RoundIn { F with round:=ro } n P l f tmps assign body w R:=h
section
variable {P:Program} {E:Ent} {N m:Nat} {R:Type} {o:Option R} {L:LG} {M:LV} {k:List (Fr R)} {Q:R→Exit→Act→World→Prop}
theorem G.y {l:Nat} {ns:List Nat} {arg:AV} {Mr M2:List VS} (hY:YC P E l ns [arg] Mr (.bool true) M2) (W:List VS) {a:Array Oper} {op:Oper} {rest:List Oper} {fo x:Operand} {tys:Array TypeId} {v:AV} {d:Nat}
  (h:(op.op,dlt op N,wnt a op (lk L),opd (lk L) fo,opd (lk L) x,op.dst,decide ns.Nodup,Nat.beq ns.length Mr.length)=(.call ⟨.value fo,#[x],tys⟩,true,some true,some (.yl l),some v,some d,true,true))
  (ha:RenL (nsO ns) [arg] [v]) (hp:Pass (nsO ns) (lv M) Mr ns) (hW:RenVL (nsO ns) M2 W) (hWl:ns.length=W.length)
  (g:G P E N m o (.o a rest) ((d,some (.bool true)) :: L) (zipW ns W++M) k Q):G P E N m o (.o a (op :: rest)) L M k Q:=fun hE=>by
 simp only [Prod.mk.injEq] at h
 obtain ⟨h1,h2,h3,h4,h5,h6,h7,h8⟩:=h
 have hnd:ns.Nodup:=of_decide_eq_true h7
 have hlen:ns.length=Mr.length:=Nat.eq_of_beq_eq_true h8
 obtain ⟨p1,p2,p3⟩:=hp.spec
 have g':=g hE
 show TR P E N a o (op :: rest) (mkS L M) (kQ P E N k Q)
 intro r hr ac w hc
 obtain ⟨A,I,c⟩:=hc
 have hw':=c.wanted (s:=mkS L M) h3
 have hf:=c.opd (s:=mkS L M) h4
 have hx:=c.opd (s:=mkS L M) h5
 unfold wpListIn
 rw [if_pos hw']
 generalize hq:ac.eval fo=q at hf
 cases hf with
 | yl _=>
 have hrun:(execOp ac.eval op).run P w=(Instr.yield l #[ac.eval x]).run P w:=by
  simp [execOp,h1,resolve,hq,Deferred.ofValue,invoke]
 have core:=call_core (rs:=gsl a op++opr fo++[x].flatMap opr) (s:=mkS L M) c (dlt_spec h2) (fun R=>YieldAt Fence.wide 0 P l #[ac.eval x] w R)
  (fun R R' hm ⟨fn,tm,as1,bd,y1,y2⟩=>⟨fn,tm,as1,bd,y1,y2.mono hm⟩) [v] [arg] #[ac.eval x] (lw Mr) (ld M2) (.bool true) (.bool true) ns ns.length W (fun _ _ _=>rfl)
  (fun i hi=>by
   have:i=0:=by simp at hi; omega
   subst this; simpa using hx)
  (fun A0 k1 k2 k3=>hY w A A0 I #[ac.eval x] rfl k2 k3 c.frm fun i n hn=>k1 i n (List.getElem?_eq_some_iff.1 hn).1 hn)
  rfl ha.spec.2 (Nat.le_refl _) hnd (fun i n hi hn=>p3 i n hn) (fun i hi=>p2 i (by omega)) (fun i hi=>lw_out Mr i (by omega)) (fun i n hi hn=>by
   have:=(List.getElem?_eq_some_iff.1 hn).1; omega) hWl hW.spec.2 (.bool _)
 obtain ⟨fn,tm,asn,bd,y1,y2⟩:=core
 refine ⟨fun _ _=>trivial,?_⟩
 rw [semAt_of (hrun.trans y1) fun _ e=>by cases e]
 refine ⟨fun h=>(by cases h),?_⟩
 refine (YieldAt.round y2 E.ro).mono ?_
 rintro e w' ⟨v',A',I',rfl,hc',_⟩
 refine g' r hr _ _ ⟨A',I',?_⟩
 rw [h6,patch_mkS] at hc'
 rw [h6]
 exact hc'
structure ICal (P:Program) (f:FuncId) (caps:List AV) (M0:List VS) (HY:Nat→Ent→Prop) (M1:List VS):Prop where
 nm:∃ fn,P.funcs[f]? = some fn∧(fn.name == "runtime.NumGoroutine")=false∧fn.body.isSome=true
 c:∀ (l:Nat) (w:World) (A:Nat→Option Nat) (I:Nat→Prop) (vals:Array Value),vals.size=caps.length+1→(∀ i,i<caps.length+1→Rep w A I ((.yl l :: caps).getD i .nilptr) (vals.getD i undef))→
  ConV ⟨w,A,I,own0 (lw M0) A,[],none,trivial⟩ (lw M0) w A I→HY l ⟨w,A,I,own0 (lw M0) A,[],none,trivial⟩→
  Calls P f vals w fun e w'=>∃ v A' I',e = .returned v∧Rep w' A' I' (.tup []) v∧ConV ⟨w,A,I,own0 (lw M0) A,[],none,trivial⟩ (ld M1) w' A' I'∧Frm ⟨w,A,I,own0 (lw M0) A,[],none,trivial⟩ w' A' I'
def noL:List (Fr R)→Bool
 | []=>true
 | .l _ _ _ _ :: _=>false
 | _ :: k=>noL k
theorem kQ_mono {E2:Ent} (hF:E2.F=E.F) {Q':R→Exit→Act→World→Prop} (h:∀ r e a w,Q' r e a w→Q r e a w):∀ (k:List (Fr R)),noL k=true→∀ r e a w,kQ P E2 N k Q' r e a w→kQ P E N k Q r e a w:=by
 intro k
 induction k with
 | nil=>intro _ r e a w hq; exact h r e a w hq
 | cons f k ih=>
  intro hk r e a w hq
  cases f with
  | s b=>
   cases e with
   | normal=>
    have hq':b.wpIn E2.F 0 P (kQ P E2 N k Q' r) a w:=hq
    show b.wpIn E.F 0 P (kQ P E N k Q r) a w
    rw [← hF]; exact wpIn_mono hq' fun e a w=>ih hk r e a w
   | _=>exact ih hk r _ a w hq
  | b id=>
   cases e with
   | exit id'=>
    have hq':Exit.inBlock id (kQ P E2 N k Q' r) (.exit id') a w:=hq
    show Exit.inBlock id (kQ P E N k Q r) (.exit id') a w
    simp only [Exit.inBlock] at hq' ⊢
    split at hq'<;>rename_i hid
    ·rw [if_pos hid]; exact ih hk r _ a w hq'
    ·rw [if_neg hid]; exact ih hk r _ a w hq'
   | _=>exact ih hk r _ a w hq
  | g=>
   cases e with
   | goto l=>exact hq.elim
   | _=>exact ih hk r _ a w hq
  | l X F st n=>cases hk
theorem own0_nc {E:Ent} {V:Nat→VS} {w:World} {A:Nat→Option Nat} {I:Nat→Prop} (cv:ConV E V w A I) {l:Nat} (h:NC w l) {x:Nat} (hon:(V x).on) (hx:A x=some l):False:=by
 have:=cv.hv x
 generalize V x=u at this hon
 cases u with
 | fresh=>exact hon
 | dead=>exact hon
 | live T cs=>obtain ⟨b,arr,h1,h2,_⟩:=this; rw [hx] at h1; cases h1; exact h _ _ _ h2
 | rw T sz els=>obtain ⟨b,arr,h1,h2,_⟩:=this; rw [hx] at h1; cases h1; exact h _ _ _ h2
def slB (L:LG) (nsI ns:List Nat) (p:Nat):List (Nat × Nat)→Bool
 | []=>true
 | (t,r) :: l=>(match ns[r]? with
  | some n=>match nsI[n]? with
   | some y=>match lk L t with
    | some (.ptr y' 0)=>Nat.beq y y' && !Nat.beq t p
    | _=>false
   | none=>false
  | none=>false) && slB L nsI ns p l
theorem slB_ok {L:LG} {nsI ns:List Nat} {p:Nat} : ∀ {SL:List (Nat × Nat)},slB L nsI ns p SL=true→∀ t r,(t,r) ∈ SL→∃ n y,ns[r]? = some n∧nsI[n]? = some y∧lk L t=some (.ptr y 0)∧t≠p
 | [],_,_,_,h=>by cases h
 | (t0,r0) :: l,h,t,r,hm=>by
  simp only [slB,Bool.and_eq_true] at h
  rcases List.mem_cons.1 hm with e | hm
  ·cases e
   have h1:=h.1
   split at h1
   ·rename_i n hn
    split at h1
    ·rename_i y hy
     split at h1
     ·rename_i y' hl
      simp only [Bool.and_eq_true,Bool.not_eq_true'] at h1
      have e:=Nat.eq_of_beq_eq_true h1.1
      subst e
      exact ⟨n,y,hn,hy,hl,fun e=>by
       have h2:=h1.2
       rw [e,Nat.beq_refl] at h2; cases h2⟩
     ·cases h1
    ·cases h1
   ·cases h1
  ·exact slB_ok h.2 t r hm
theorem G.rf {α β γ:Type} {q:Option α} {F:α→Option R} {bF:β→Option γ} {arg:β→AV} {Mr:β→List VS} {M2:γ→List VS} {g:Operand} {p:Nat} {assign body:Code} {gf:FuncId} {caps argsC:List AV} {M0:List VS} {Mx W:α→List VS}
  {fn:Func} {res:R→AV} {V1:R→Nat→VS} {mr:Nat} {L1 Mi M1:β→_}
  (hro:E.ro=none) (hds:E.ds=[]) (nsI ns:List Nat) (SL:List (Nat × Nat))
  (hh:(noL k,opd (lk L) g,decide nsI.Nodup,Nat.blt p N,slB L nsI ns p SL)=(true,some (.fn gf [] caps),true,true,true))
  (hit:∀ x,q=some x→ICal P gf argsC M0 (fun l Ei=>∀ y r,bF y=some r→YC P Ei l ns [arg y] (Mr y) (.bool true) (M2 r)) (Mx x))
  (ha:RenL (nsO nsI) argsC caps) (hp:Pass (nsO nsI) (lv M) M0 nsI) (hW:∀ x,RenVL (nsO nsI) (Mx x) (W x)) (hWl:∀ x,nsI.length=(W x).length)
  (hMr:∀ y,(initVO 0 (Mr y),(Mr y).length)=(some (Mi y),mr))
  (has:∀ y E,G P E N mr (some ()) (.c assign) ((p,some (arg y)) :: SL.map fun q=>(q.1,some (.ptr q.2 0))) (Mi y) [] (fun _ e a w=>e = .normal∧Conc E N (mkS (L1 y) (M1 y)) a w))
  (hbd:∀ y r,bF y=some r→∀ E,G P E N mr (some ()) (.c body) (L1 y) (M1 y) [] (fun _ e _ w=>e = .normal∧∃ A I,ConV E (ld (M2 r)) w A I∧Frm E w A I))
  (after:∀ x,q=some x→∀ E2,G P E2 N m (F x) (.x .normal) L (zipW nsI (W x)++M) k (fin P fn E2 res V1)) :
  G P E N m (q.bind F) (.c (.rangeFunc g #[p] assign body)) L M k (fin P fn E res V1):=fun hE=>by
 simp only [Prod.mk.injEq] at hh
 obtain ⟨hk,hg,hnd,hpN,hSL⟩:=hh
 have hnd:=of_decide_eq_true hnd
 have hpN:=Nat.le_of_ble_eq_true hpN
 obtain ⟨p1,p2,p3⟩:=hp.spec
 show T P E N (q.bind F) (.rangeFunc g #[p] assign body) (mkS L M) (kQ P E N k (fin P fn E res V1))
 intro r hr a w hc
 obtain ⟨x,hx,hFx⟩:=Option.bind_eq_some_iff.1 hr
 obtain ⟨A,I,c⟩:=hc
 have hf:=c.opd (s:=mkS L M) hg
 refine wpIn_rangeFunc ?_
 intro fid _
 have hFr:E.F.round=none:=hro
 rw [hFr]
 generalize hq:a.eval g=gv at hf
 cases hf with
 | fn _ _ _ fs cs g1 g2 g3 g4=>
 obtain rfl:fs = #[]:=by simpa using g1
 obtain ⟨rec,hrec⟩:∃ rec:LoopState→Loop,rec=fun st=>{ state:=st,pending:=none,fn:=fid,tmps:=a.tmps,params:=#[p],assign:=assign,body:=body,defers:=w.heap.size }:=⟨_,rfl⟩
 obtain ⟨w1,hw1⟩:∃ w1,(w.alloc (.deferred (some []))).alloc (.loop (rec .ready))=w1:=⟨_,rfl⟩
 have hsz1:w1.heap.size=w.heap.size+2:=by rw [← hw1,alloc_size,alloc_size]
 have hL1:w1.heap[w.heap.size+1]? = some (.loop (rec .ready)):=by
  rw [← hw1]; have:=alloc_new (w.alloc (.deferred (some []))) (.loop (rec .ready)); rwa [alloc_size] at this
 have hD1:w1.heap[w.heap.size]? = some (.deferred (some [])):=by
  rw [← hw1,alloc_old _ _ _ (by rw [alloc_size]; omega)]; exact alloc_new w _
 have c1:Con E N (mkS L M) a w1 A I:=by rw [← hw1]; exact (c.allocO _).allocO _
 have hI:∀ b,I b→b<w.heap.size:=c.imm
 obtain ⟨fn',n1,n2,n3⟩:=(hit x hx).nm
 refine ⟨w.heap.size+1,[{ target:=.collected w.heap.size,args:=#[] }],w1,{ target:=.fn (.func gf) cs,args:=#[.func (.yield (w.heap.size+1)) #[] #[]] },w1,gf,
  #[.func (.yield (w.heap.size+1)) #[] #[]]++cs,w1,?_,?_,fun _ _=>trivial,?_,fun h=>(by cases h),?_⟩
 ·rw [← hw1,hrec]; exact run_enterLoop_outer _ _ _ _ _
 ·simp only [resolve,hq]
  simp [go_sem]
 ·simp [invoke,callFunc,n1,show ¬fn'.name = "runtime.NumGoroutine" by simpa using n2,Option.isSome_iff_ne_none.1 n3]
 have hrepA:∀ i,i<(AV.yl (w.heap.size+1) :: caps).length→Rep w1 A I ((AV.yl (w.heap.size+1) :: caps).getD i .nilptr) ((#[Value.func (.yield (w.heap.size+1)) #[] #[]]++cs).getD i undef):=by
  have hu:∀ {v x},Rep w A I v x→Rep w1 A I v x:=fun {v x} h=>h.mono (fun _ _ h=>h) (fun _ h=>h) (fun b hb=>by
   have:=hI b hb
   rw [← hw1,alloc_old _ _ _ (by rw [alloc_size]; omega),alloc_old _ _ _ this]) (by rw [← hw1]; exact (shp_alloc _ _).trans (shp_alloc _ _))
  intro i hi
  cases i with
  | zero=>simpa [Array.getD,show 0<1+cs.size by omega] using Rep.yl (w:=w1) (A:=A) (I:=I) (w.heap.size+1)
  | succ i=>
   have hi':i<caps.length:=by simpa using hi
   have e1:(AV.yl (w.heap.size+1) :: caps).getD (i+1) .nilptr=caps.getD i .nilptr:=by simp [List.getD]
   have e2:(#[Value.func (.yield (w.heap.size+1)) #[] #[]]++cs).getD (i+1) undef=cs.getD i undef:=by
    simp only [Array.getD_eq_getD_getElem?]
    rw [Array.getElem?_append_right (by simp)]
    simp
   rw [e1,e2]; exact hu (g4 i hi')
 have hal:=ha.spec.1
 have core:=call_core (s:=mkS L M) (rs:=[]) c1 (d:=none) (fun t h=>by cases h)
  (fun R=>Calls P gf (#[Value.func (.yield (w.heap.size+1)) #[] #[]]++cs) w1 fun e w'=>R e w'∧w'.heap[w.heap.size+1]? = w1.heap[w.heap.size+1]?∧w'.heap[w.heap.size]? = w1.heap[w.heap.size]?∧w1.heap.size≤w'.heap.size)
  (fun R R' hm h=>h.mono fun e w' k=>⟨hm _ _ k.1,k.2⟩) (AV.yl (w.heap.size+1) :: caps) (AV.yl (w.heap.size+1) :: argsC) _ (lw M0) (ld (Mx x)) (.tup []) (.tup []) nsI nsI.length (W x) (fun _ _ _=>rfl) hrepA
  (fun A0 k1 k2 k3=>by
   have hno:∀ b,NC w1 b→¬own0 (lw M0) A0 b:=fun b hb ⟨y,hon,hy⟩=>own0_nc k3 hb hon hy
   refine ((hit x hx).c (w.heap.size+1) w1 A0 I _ (by simp; omega) (fun i hi=>k2 i (by simpa using hi)) k3 ?_).mono ?_
   ·intro y r' hy
    have hm:=hMr y
    simp only [Prod.mk.injEq] at hm
    refine yc_of SL (Ei:=⟨w1,A0,I,own0 (lw M0) A0,[],none,trivial⟩) (fn:=fid) (tmps:=a.tmps) (assign:=assign) (body:=body) (D:=w.heap.size) (Mi:=Mi y) (L1:=L1 y) (M1:=M1 y) (N:=N) (p:=p) (by rw [hL1,hrec]) (hno _ (NC.of hL1 rfl)) (fun h=>by have:=hI _ h; omega) c.tmps hpN ?_ ?_ ?_ ?_
    ·intro t rr hm
     obtain ⟨n,y',h1,h2,h3,h4⟩:=slB_ok hSL t rr hm
     obtain ⟨xv,h5,h6⟩:=c1.G t _ h3
     cases h6 with
     | ptr _ _ b hA=>exact ⟨n,b,h1,(k1 n y' (List.getElem?_eq_some_iff.1 h2).1 h2).trans hA,h5,h4⟩
    ·funext z; rw [← initVO_eq hm.1,initV_get]; simp
    ·exact fun E' hE'=>has y E' fun z hz=>hE' z (by rw [hm.2]; exact hz)
    ·exact fun E' hE'=>hbd y r' hy E' fun z hz=>hE' z (by rw [hm.2]; exact hz)
   ·rintro e w' ⟨v,A',I',rfl,h1,h2,h3⟩
    exact ⟨⟨v,A',I',rfl,h1,h2,h3⟩,(h3.keepo (l:=w.heap.size+1) hL1 (hno _ (NC.of hL1 rfl))).trans hL1.symm,(h3.keepo (l:=w.heap.size) hD1 (hno _ (NC.of hD1 rfl))).trans hD1.symm,h3.size⟩)
  (by simpa using hal) (fun i=>by
   cases i with
   | zero=>simpa using Ren.yl (ρ:=nsO nsI) (w.heap.size+1)
   | succ i=>simpa [List.getD] using ha.spec.2 i)
  (Nat.le_refl _) hnd (fun i n hi hn=>p3 i n hn) (fun i hi=>p2 i (by omega)) (fun i hi=>lw_out M0 i (by omega)) (fun i n hi hn=>by
   have:=(List.getElem?_eq_some_iff.1 hn).1; omega) (hWl x) (hW x).spec.2 (.tup _ _ rfl fun i=>by simpa using Ren.nilptr)
 refine (CallsIn.anyRound (callsIn_wide.2 core) E.ro).mono ?_
 rintro e w2 ⟨⟨v,A',I',rfl,c2,hIO⟩,hl2,hD2,hs2⟩
 rw [hL1] at hl2
 rw [hD1] at hD2
 have hnI:∀ b,b<w1.heap.size→w.heap.size≤b→NC w1 b→¬I' b:=fun b h1 h2 h3 h4=>by
  rcases hIO b h4 with h | ⟨y,hon,hy⟩ | h
  ·have:=hI b h; omega
  ·exact own0_nc c1.toConV h3 hon hy
  ·omega
 have hIl:¬I' (w.heap.size+1):=hnI _ (by omega) (by omega) (NC.of hL1 rfl)
 have hID:¬I' w.heap.size:=hnI _ (by omega) (by omega) (NC.of hD1 rfl)
 have hE0:E.w0.heap.size≤w.heap.size:=c.frm.size
 have hend:=run_endLoop (P:=P) hl2 (by rw [hrec]; simp)
 obtain ⟨ox,hox⟩:∃ ox:Obj,ox = .loop { rec .ready with state:=.exhausted }:=⟨_,rfl⟩
 have hoxc:ox.isCells=false:=by rw [hox]; rfl
 refine ⟨none,w2.putObj (w.heap.size+1) ox,?_,?_⟩
 ·rw [hend,hox,hrec]
 have hD3:(w2.putObj (w.heap.size+1) ox).heap[w.heap.size]? = some (.deferred (some [])):=(putObj_other w2 _ _ ox (by omega)).trans hD2
 have hc2:NC w2 (w.heap.size+1):=NC.of hl2 rfl
 let own2:Nat→Prop:=fun b=>(E.own b∨E.w0.heap.size≤b)∧b≠w.heap.size
 let E2:Ent:=⟨w2.putObj (w.heap.size+1) ox,E.A0,I',own2,[{ target:=.collected w.heap.size,args:=#[] }],none,⟨w.heap.size,rfl,hD3,fun h=>h.2 rfl,hID⟩⟩
 have c3:Con E2 N (mkS L (zipW nsI (W x)++M)) { a with defers:=[{ target:=.collected w.heap.size,args:=#[] }]++a.defers } (w2.putObj (w.heap.size+1) ox) A' I':=by
  have ep:((⟨[],none,some (.tup []),nsI,zipW nsI (W x)⟩:Ev).patch (mkS L M))=mkS L (zipW nsI (W x)++M):=patch_mkS _ _ _
  rw [ep] at c2
  refine { toConV:=c2.toConV.put ox hc2 hIl fun b hb h=>.inl ⟨h,fun e=>?_⟩,frm:=?_,tmps:=c2.tmps,defs:=?_,G:=fun t v h=>let ⟨x,g1,g2⟩:=c2.G t v h; ⟨x,g1,g2.put ox hc2 hIl⟩ }
  ·subst e; exact hb (NC.of hD2 rfl)
  ·exact ⟨Nat.le_refl _,fun _ _ _=>rfl,Shp.refl _,rfl,rfl,rfl,fun _ h=>h,c2.frm.AA,fun _ h=>.inl h⟩
  ·show [_]++a.defers=[_]
   rw [c.defs,hds]; rfl
 have hfin:∀ r e a w,fin P fn E2 res V1 r e a w→fin P fn E res V1 r e a w:=by
  have key:∀ r a w,(FinAt P fn E2 (res r) (V1 r) a w∨∃ E3,Aft E2 E3∧FinAt P fn E3 (res r) (V1 r) a w)→FinAt P fn E (res r) (V1 r) a w∨∃ E3,Aft E E3∧FinAt P fn E3 (res r) (V1 r) a w:=by
   intro r a' w' h
   rcases h with h | ⟨E3,h,_⟩
   ·refine .inr ⟨E2,⟨hds,(by intro h; cases h),fun b hb=>hb.1,?_⟩,h⟩
    have f:=(c2.frm.putN (l:=w.heap.size+1) ox (by omega)).putN (l:=w.heap.size) (.deferred none) hE0
    exact { f with AA:=fun _ _ h=>h }
   ·exact absurd h.1 (by intro h; cases h)
  intro r e a' w' h
  cases e with
  | normal=>exact key r a' w' h
  | ret=>exact key r a' w' h
  | _=>exact h
 exact kQ_mono (E:=E) (E2:=E2) (show E2.F=E.F by unfold Ent.F; rw [hro]) hfin k hk r .normal _ _ (after x hx E2 (fun z hz=>hE z hz) r hFx _ _ ⟨A',I',c3⟩)
theorem G.as0:G P E N m (some ()) (.x .normal) L M [] (fun _ e a w=>e = .normal∧Conc E N (mkS L M) a w):=fun _ _ _ _ _ hc=>⟨rfl,hc⟩
end
end Go.Abs
