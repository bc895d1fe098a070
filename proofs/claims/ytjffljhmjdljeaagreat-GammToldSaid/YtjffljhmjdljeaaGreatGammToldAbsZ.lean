/- Calls with names, told shortly. -/
import Derived.Test.YtjffljhmjdljeaaGreatGammToldAbsW
set_option linter.unusedVariables false
set_option linter.unusedSimpArgs false
namespace Go.Abs
theorem zg9 {ρ:Nat→Option Nat} {a a':List AV} (h:RenL ρ a a'):Ren ρ (.iptr a) (.iptr a'):=.iptr _ _ h.spec.1 h.spec.2
instance:Dt .anyf:=⟨fun _=>.anyf⟩
instance {l:List AV} [h:DtL l]:Dt (.iptr l):=⟨fun ρ=>zg9 (h.h ρ)⟩
instance:Rn .anyf:=⟨fun _ _ _=>.anyf⟩
instance {l:List AV} [h:DtL l]:Rn (.iptr l):=⟨fun _ _ _=>zg9 (h.h _)⟩
instance {l r:List AV} [k:RnF r] [h:DtL l]:RnF (.iptr l :: r):=⟨fun z hn q=>by
 simp only [List.all_cons,Bool.and_eq_true] at q
 exact .cons (zg9 (h.h _)) (k.h z hn q.2)⟩
def fk (ns:List Nat) (y:Nat):Nat:=ns.getD y 0
def okN (ns:List Nat) (y:Nat):Bool:=decide (y<ns.length)
theorem znl {ns:List Nat} {y:Nat} (h:okN ns y=true):nsO ns y=some (fk ns y):=by
 have h:=of_decide_eq_true h
 unfold nsO fk
 simp [List.getD,h]
def fw1 (ns:List Nat):AV→AV
 | .ptr y off=>.ptr (fk ns y) off
 | v=>v
def ok1 (ns:List Nat):AV→Bool
 | .ptr y _=>okN ns y
 | _=>true
def fw (ns:List Nat):AV→AV
 | .ptr y off=>.ptr (fk ns y) off
 | .row y sz off n=>.row (fk ns y) sz off n
 | .fn f a c=>.fn f (a.map (fw1 ns)) (c.map (fw1 ns))
 | .tup l=>.tup (l.map (fw1 ns))
 | v=>v
def okF (ns:List Nat):AV→Bool
 | .ptr y _=>okN ns y
 | .row y _ _ _=>okN ns y
 | .fn _ a c=>a.all (ok1 ns) && c.all (ok1 ns)
 | .tup l=>l.all (ok1 ns)
 | _=>true
class Fw1 (v:AV):Prop where
 h:∀ ns,ok1 ns v=true→Ren (nsO ns) v (fw1 ns v)
class FwF (l:List AV):Prop where
 h:∀ ns,l.all (ok1 ns)=true→RenL (nsO ns) l (l.map (fw1 ns))
class Fw (v:AV):Prop where
 h:∀ ns,okF ns v=true→Ren (nsO ns) v (fw ns v)
class FwL (l:List AV):Prop where
 h:∀ ns,l.all (okF ns)=true→RenL (nsO ns) l (l.map (fw ns))
section
variable {α:Type} {K:Kd α}
instance {k:IntKind} {n:Int} : Fw1 (.int k n):=⟨fun _ _=>.int _ _⟩
instance {b:Bool} : Fw1 (.bool b):=⟨fun _ _=>.bool _⟩
instance {b:ByteArray} : Fw1 (.str b):=⟨fun _ _=>.str _⟩
instance {l:List α} : Fw1 (slK K l):=⟨fun _ _=>Q3 _⟩
instance:Fw1 .nilsl:=⟨fun _ _=>.nilsl⟩
instance:Fw1 .nilptr:=⟨fun _ _=>.nilptr⟩
instance:Fw1 .nilfn:=⟨fun _ _=>.nilfn⟩
instance {l:List (List AV)} [h:zdv l]:Fw1 (.sl l):=⟨fun _ _=>Zp (h.h _)⟩
instance {l:List AV} [h:DtL l]:Fw1 (.agg l):=⟨fun _ _=>zjF (h.h _)⟩
instance {f:FuncId} {a c:List AV} [h:DtL a] [k:DtL c]:Fw1 (.fn f a c):=⟨fun _ _=>zU f (h.h _) (k.h _)⟩
instance {y off:Nat} : Fw1 (.ptr y off):=⟨fun _ h=>.ptr _ _ _ (znl h)⟩
instance:Fw1 .anyf:=⟨fun _ _=>.anyf⟩
instance {l:List AV} [h:DtL l]:Fw1 (.iptr l):=⟨fun _ _=>zg9 (h.h _)⟩
instance:Fw .anyf:=⟨fun _ _=>.anyf⟩
instance {l:List AV} [h:DtL l]:Fw (.iptr l):=⟨fun _ _=>zg9 (h.h _)⟩
instance:FwF []:=⟨fun _ _=>.nil⟩
instance {v:AV} {r:List AV} [h:Fw1 v] [k:FwF r]:FwF (v :: r):=⟨fun ns q=>by
 simp only [List.all_cons,Bool.and_eq_true] at q
 exact .cons (h.h ns q.1) (k.h ns q.2)⟩
instance {k:IntKind} {n:Int} : Fw (.int k n):=⟨fun _ _=>.int _ _⟩
instance {b:Bool} : Fw (.bool b):=⟨fun _ _=>.bool _⟩
instance {b:ByteArray} : Fw (.str b):=⟨fun _ _=>.str _⟩
instance {l:List α} : Fw (slK K l):=⟨fun _ _=>Q3 _⟩
instance:Fw .nilsl:=⟨fun _ _=>.nilsl⟩
instance:Fw .nilptr:=⟨fun _ _=>.nilptr⟩
instance:Fw .nilfn:=⟨fun _ _=>.nilfn⟩
instance {l:List (List AV)} [h:zdv l]:Fw (.sl l):=⟨fun _ _=>Zp (h.h _)⟩
instance {l:List AV} [h:DtL l]:Fw (.agg l):=⟨fun _ _=>zjF (h.h _)⟩
instance {y off:Nat} : Fw (.ptr y off):=⟨fun _ h=>.ptr _ _ _ (znl h)⟩
instance {y sz off n:Nat} : Fw (.row y sz off n):=⟨fun _ h=>.row _ _ _ _ _ (znl h)⟩
instance {f:FuncId} {a c:List AV} [h:FwF a] [k:FwF c]:Fw (.fn f a c):=⟨fun ns q=>by
 simp only [okF,Bool.and_eq_true] at q
 exact zU f (h.h ns q.1) (k.h ns q.2)⟩
instance {l:List AV} [h:FwF l]:Fw (.tup l):=⟨fun ns q=>zrb (h.h ns q)⟩
instance:FwL []:=⟨fun _ _=>.nil⟩
instance {v:AV} {r:List AV} [h:Fw v] [k:FwL r]:FwL (v :: r):=⟨fun ns q=>by
 simp only [List.all_cons,Bool.and_eq_true] at q
 exact .cons (h.h ns q.1) (k.h ns q.2)⟩
end
def fwV (ns:List Nat):VS→VS
 | .live T a=>.live T (a.map (fw ns))
 | v=>v
def okV (ns:List Nat):VS→Bool
 | .live _ a=>a.all (okF ns)
 | _=>true
class FwV (v:VS):Prop where
 h:∀ ns,okV ns v=true→RenV (nsO ns) v (fwV ns v)
instance:FwV .dead:=⟨fun _ _=>.dead⟩
instance {T:TypeId} {a:List AV} [h:FwL a]:FwV (.live T a):=⟨fun ns q=>zg3 T (h.h ns q)⟩
instance {α:Type} {K:Kd α} {T:TypeId} {a:List α} : FwV (rwK K T a):=⟨fun _ _=>zm9 _ _⟩
class QG (l:List VS):Prop where
 h:∀ ns,l.all (okV ns)=true→RenVL (nsO ns) l (l.map (fwV ns))
instance:QG []:=⟨fun _ _=>.nil⟩
instance {v:VS} {r:List VS} [h:FwV v] [k:QG r]:QG (v :: r):=⟨fun ns q=>by
 simp only [List.all_cons,Bool.and_eq_true] at q
 exact .cons (h.h ns q.1) (k.h ns q.2)⟩
def onB:VS→Bool
 | .live _ _=>true
 | .rw _ _ _=>true
 | _=>false
theorem zxy {v:VS} (h:onB v=true):v.on:=by cases v<;>first | trivial | cases h
theorem znm {ρ:Nat→Option Nat} {V:Nat→VS} : ∀ {M0 W:List VS} {ns:List Nat},RenVL ρ M0 W→M0.all onB=true→ns.map V=W→Pass ρ V M0 ns
 | _,_,[],.nil,_,_=>.nil
 | _,_,_ :: _,.nil,_,h=>by cases h
 | _,_,[],.cons _ _,_,h=>by cases h
 | _,_,n :: ns,.cons h t,o,e=>by
  simp only [List.all_cons,Bool.and_eq_true] at o
  simp only [List.map_cons,List.cons.injEq] at e
  exact .cons (zxy o.1) (by rw [e.1]; exact h) (znm t o.2 e.2)
def kL (V:Nat→VS):List Bool→List Nat→List VS→List VS
 | b :: bs,n :: ns,v :: vs=>(match b with | true=>v | false=>V n) :: kL V bs ns vs
 | [],[],[]=>[]
 | _,_,_=>[.fresh,.fresh,.fresh,.fresh,.fresh,.fresh,.fresh,.fresh,.fresh]
def kB:List Bool→List Nat→List VS→Bool
 | _ :: bs,_ :: ns,_ :: vs=>kB bs ns vs
 | [],[],[]=>true
 | _,_,_=>false
theorem zjV {V:Nat→VS} : ∀ {bs:List Bool} {ns:List Nat} {W:List VS},kB bs ns W=true→kL V bs ns W=W→Kept V bs ns W
 | [],[],[],_,_=>.nil
 | b :: bs,n :: ns,v :: vs,hb,h=>by
  simp only [kL,List.cons.injEq] at h
  cases b with
  | true=>exact .turned (zjV (by simpa [kB] using hb) h.2)
  | false=>exact .kept h.1 (zjV (by simpa [kB] using hb) h.2)
 | [],[],_ :: _,h,_=>by simp [kB] at h
 | [],_ :: _,_,h,_=>by simp [kB] at h
 | _ :: _,[],_,h,_=>by simp [kB] at h
 | _ :: _,_ :: _,[],h,_=>by simp [kB] at h
def frB (M:LV) (ns:List Nat):Bool:=ns.all fun n=>match lv M n with | .fresh=>true | _=>false
theorem zrz {M:LV} {ns:List Nat} (h:frB M ns=true):∀ n ∈ ns,lv M n = .fresh:=fun n hn=>by
 have:=List.all_eq_true.1 h n hn
 revert this
 cases lv M n<;>simp
section
variable {P:Program} {E:Ent} {N m:Nat} {R:Type} {o:Option R} {c:Ctl} {L:LG} {M:LV} {k:List (Fr R)} {Q:R→Exit→Act→World→Prop} {tb:List (Nat × TE)}
theorem G.c0 {α:Type} {q:Option α} {f:Nat} {as:List AV} {M0:List VS} {R':α→AV} {M1:α→List VS} [hq:CC q P f as M0 R' M1] [ha:FwL as] [hm:QG M0] [hr:∀ x,Fw (R' x)] [hw:∀ x,QG (M1 x)] (ns1 ns2:List Nat) (bs:List Bool)
  {F:α→Option R} {a:Array Oper} {op:Oper} {nx:Ev→Ctl} {fo:Operand} {xs:Array Operand} {tys:Array TypeId} {first caps vs:List AV} {d:Nat} {L':α→LG} {M':α→LV} {c':α→Ctl} (hp:c.pop=some (a,op,nx))
  (h:((op.op,dlt op N,wnt a op (lk L),opd (lk L) fo,ZP (lk L) xs.toList,first++vs++caps,op.dst),(decide (ns1++ns2).Nodup,as.all (okF (ns1++ns2)),M0.all (okV (ns1++ns2)),M0.all onB,frB M ns2),ns1.map (lv M)) =
   ((.call ⟨.value fo,xs,tys⟩,true,some true,some (.fn f first caps),some vs,as.map (fw (ns1++ns2)),some d),(true,true,true,true,true),M0.map (fwV (ns1++ns2))))
  (hx:∀ x,((okF (ns1++ns2) (R' x),(M1 x).all (okV (ns1++ns2)),kB bs (ns1++ns2) ((M1 x).map (fwV (ns1++ns2))),(ns1++ns2).length),kL (lv M) bs (ns1++ns2) ((M1 x).map (fwV (ns1++ns2))))=((true,true,true,((M1 x).map (fwV (ns1++ns2))).length),(M1 x).map (fwV (ns1++ns2))))
  (hs:∀ x,(apS L M ⟨[],some d,some (fw (ns1++ns2) (R' x)),[],zipM bs (ns1++ns2) ((M1 x).map (fwV (ns1++ns2)))⟩,nx ⟨gsl a op++opr fo++xs.toList.flatMap opr,some d,some (fw (ns1++ns2) (R' x)),ns1++ns2,zipM bs (ns1++ns2) ((M1 x).map (fwV (ns1++ns2)))⟩)=(some (L' x,M' x),c' x))
  (g:∀ x,q=some x→G P E N m (F x) (c' x) (L' x) (M' x) k Q):G P E N m (q.bind F) c L M k Q:=by
 refine G.bind fun x e=>?_
 simp only [Prod.mk.injEq] at h
 have h1:=h.1; have h2:=h.2.1; have h3:=h.2.2
 have hx:=hx x
 simp only [Prod.mk.injEq] at hx
 have t:=hs x
 simp only [Prod.mk.injEq] at t
 have s:Snd P a op N (mkS L M) _:=cl (s:=mkS L M) (fo:=fo) (xs:=xs) (tys:=tys) (first:=first) (caps:=caps) (vs:=vs) (hq.p x e) ns1 ns2 bs (by
   simp only [mkS] at *
   rw [h1.1,h1.2.1,h1.2.2.1,h1.2.2.2.1,h1.2.2.2.2.1,h1.2.2.2.2.2.1,h2.1]) (ha.h _ h2.2.1)
  (znm (hm.h _ h2.2.2.1) h2.2.2.2.1 h3) (zrz h2.2.2.2.2) ((hw x).h _ hx.1.2.1) ((hr x).h _ hx.1.1) (zjV hx.1.2.2.1 hx.2) hx.1.2.2.2
 rw [h1.2.2.2.2.2.2] at s
 exact G.st hp s (Prod.ext t.1 t.2) (g x e)
end
end Go.Abs
