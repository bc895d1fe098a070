/- Joins, calls and ends in few words. -/
import Derived.Test.YtjffljhmjdljeaaGreatGammToldAbsR
set_option linter.unusedVariables false
set_option linter.unusedSimpArgs false
namespace Go.Abs
section
variable {ρ:Nat→Option Nat} {α:Type} {K:Kd α}
theorem RenL.i {k:IntKind} {n:Int} {l r:List AV} (t:RenL ρ l r):RenL ρ (.int k n :: l) (.int k n :: r):=.cons (.int _ _) t
theorem RenL.b {b:Bool} {l r:List AV} (t:RenL ρ l r):RenL ρ (.bool b :: l) (.bool b :: r):=.cons (.bool _) t
theorem RenL.s {b:ByteArray} {l r:List AV} (t:RenL ρ l r):RenL ρ (.str b :: l) (.str b :: r):=.cons (.str _) t
theorem RenL.l {a:List α} {l r:List AV} (t:RenL ρ l r):RenL ρ (slK K a :: l) (slK K a :: r):=.cons (Q3 _) t
theorem RenL.p {x y off:Nat} {l r:List AV} (h:ρ x=some y) (t:RenL ρ l r):RenL ρ (.ptr x off :: l) (.ptr y off :: r):=.cons (.ptr _ _ _ h) t
theorem RenL.a (K:Kd α) {a:α} {l r:List AV} (t:RenL ρ l r):RenL ρ (.agg (K.enc a) :: l) (.agg (K.enc a) :: r):=.cons (zra _) t
theorem RenV.v {T:TypeId} {l r:List AV} (h:RenL ρ l r):RenV ρ (.live T l) (.live T r):=zg3 T h
theorem SubG.g {G:Nat→Option AV} {t:Nat} {z v:AV} {r:List (Nat × Option AV)} (h:G t=some z) (hd:Ren ρ z v) (k:SubG ρ G r):SubG ρ G ((t,some v) :: r):=.cons h (.refl _) hd k
theorem SubG.i {G:Nat→Option AV} {t:Nat} {k:IntKind} {n:Int} {r:List (Nat × Option AV)} (h:G t=some (.int k n)) (q:SubG ρ G r):SubG ρ G ((t,some (.int k n)) :: r):=.cons h (.refl _) (.int _ _) q
theorem SubG.b {G:Nat→Option AV} {t:Nat} {b:Bool} {r:List (Nat × Option AV)} (h:G t=some (.bool b)) (q:SubG ρ G r):SubG ρ G ((t,some (.bool b)) :: r):=.cons h (.refl _) (.bool _) q
theorem SubG.l {G:Nat→Option AV} {t:Nat} {a:List α} {r:List (Nat × Option AV)} (h:G t=some (slK K a)) (q:SubG ρ G r):SubG ρ G ((t,some (slK K a)) :: r):=.cons h (.refl _) (Q3 _) q
theorem SubG.p {G:Nat→Option AV} {t x y off:Nat} {r:List (Nat × Option AV)} (h:G t=some (.ptr x off)) (hx:ρ x=some y) (q:SubG ρ G r):SubG ρ G ((t,some (.ptr y off)) :: r):=.cons h (.refl _) (.ptr _ _ _ hx) q
theorem SubG.a {G:Nat→Option AV} {t:Nat} {a:α} {r:List (Nat × Option AV)} (h:G t=some (.agg (K.enc a))) (q:SubG ρ G r):SubG ρ G ((t,some (.agg (K.enc a))) :: r):=.cons h (.refl _) (zra _) q
theorem SubV.v {V:Nat→VS} {x y:Nat} {T:TypeId} {a b:List AV} {l:List (Nat × Nat)} {r:List (Nat × VS)} (h:V x = .live T a) (hd:RenL ρ a b) (k:SubV ρ V l r):SubV ρ V ((x,y) :: l) ((y,.live T b) :: r):=.cons (by rw [h]; exact .refl _) (zg3 T hd) k
theorem SubV.d {V:Nat→VS} {x y:Nat} {l:List (Nat × Nat)} {r:List (Nat × VS)} (k:SubV ρ V l r):SubV ρ V ((x,y) :: l) ((y,.dead) :: r):=.cons (.dead _) .dead k
end
section
variable {P:Program} {E:Ent} {N:Nat} {R:Type} {q:Option R} {s:St} {Q:R→Exit→Act→World→Prop} {L:List (Nat × Option AV)} {M:List (Nat × VS)}
theorem jn {L':List (Nat × Option AV)} {M':List (Nat × VS)} {m:Nat} (l:List (Nat × Nat)) (hE:∀ x,m≤x→E.A0 x=none) (hG:SubG (Zy l) (lk L) L') (hV:SubV (Zy l) (lv M) l M')
  (hm:(decide (l.map (·.1)).Nodup && decide (l.map (·.2)).Nodup && (List.range m).all fun x=>l.contains (x,x))=true):∀ a w,Conc E N (mkS L M) a w→Conc E N (mkS L' M') a w:=fun _ _ h=>Conc.join l h hE hm hG hV
theorem T.loopW {X:Type} {c:Code} (F:Nat→X→Option R) (st:X→St) (x:X) (hs:∀ a w,Conc E N s a w→Conc E N (st x) a w) (hz:∀ x,F 0 x=none) (hq:F fuel x=q)
  (hb:∀ n x,T P E N (F (n+1) x) c (st x) (zeM E N F st (n+1) Q)):T P E N q (.loop c) s Q:=by
 subst hq; exact T.weak (T.loop F st fuel x hz hb) hs
theorem RV.t {t:Nat} {v:AV} (h:s.G t=some v):RV P s (.tmp t) v:=.tmp t v h
theorem RV.a {t T x off n:Nat} {U:TypeId} {cs l:List AV} (hT:Agg P T n) (h:(s.G t,s.V x,ldL cs off n)=(some (.ptr x off),.live U cs,some l)):RV P s (.cell t T) (.agg l):=by
 simp only [Prod.mk.injEq] at h
 obtain ⟨k1,k2⟩:=zne h.2.2
 rw [k1]
 exact .agg t T x off n U cs hT h.1 h.2.1 k2
theorem RV.c {t T x off:Nat} {U:TypeId} {cs:List AV} {v:AV} (hT:Sca P T) (h:(s.G t,s.V x,cs[off]?)=(some (.ptr x off),.live U cs,some v)):RV P s (.cell t T) v:=by
 simp only [Prod.mk.injEq] at h
 obtain ⟨k1,k2⟩:=List.getElem?_eq_some_iff.1 h.2.2
 have:=RV.sca (P:=P) t T x off U cs hT h.1 h.2.1 k1
 have e:ldS cs off=v:=by unfold ldS; simp [List.getD,h.2.2]
 rw [e] at this; exact this
theorem Left.k {V:Nat→VS} {n:Nat} {v:VS} {l:List VS} (h:V n=v) (k:Left V (n+1) l):Left V n (v :: l):=.cons (by rw [h]; exact .refl _) k
theorem Left.d {V:Nat→VS} {n:Nat} {l:List VS} (k:Left V (n+1) l):Left V n (.dead :: l):=.cons (.dead _) k
end
def zcj:Nat→List AV→Option (List (Nat × Option AV))
 | _,[]=>some []
 | n,a :: l=>match zcj (n+1) l with
  | none=>none
  | some r=>some ((n,some a) :: r)
def zdu:Nat→List VS→Option (List (Nat × VS))
 | _,[]=>some []
 | n,a :: l=>match zdu (n+1) l with
  | none=>none
  | some r=>some ((n,a) :: r)
theorem zrm:∀ {l:List AV} {n:Nat} {r:List (Nat × Option AV)},zcj n l=some r→initG n l=r
 | [],n,r,h=>by simp [zcj] at h; subst h; rfl
 | a :: l,n,r,h=>by
  simp only [zcj] at h
  cases h':zcj (n+1) l with
  | none=>rw [h'] at h; cases h
  | some q=>rw [h'] at h; cases h; simp [initG,zrm h']
theorem zrn:∀ {l:List VS} {n:Nat} {r:List (Nat × VS)},zdu n l=some r→initV n l=r
 | [],n,r,h=>by simp [zdu] at h; subst h; rfl
 | a :: l,n,r,h=>by
  simp only [zdu] at h
  cases h':zdu (n+1) l with
  | none=>rw [h'] at h; cases h
  | some q=>rw [h'] at h; cases h; simp [initV,zrn h']
theorem go {P:Program} {f:FuncId} {fn:Func} {c:Code} {args:List AV} {M0:List VS} {R:Type} {o:Option R} {res:R→AV} {V1:R→List VS} {N:Nat} {L:List (Nat × Option AV)} {M:List (Nat × VS)} (m:Nat) (hf:P.funcs[f]? = some fn) (hN:fn.ntmps=N)
  (hh:(fn.body,Nat.ble args.length N,zcj 0 args,zdu 0 M0,M0.length)=(some c,true,some L,some M,m)) (h:∀ E,(∀ x,m≤x→E.A0 x=none)→T P E N o c (mkS L M) (fin P fn E res fun r=>ld (V1 r))):∀ r,o=some r→ACalls P f args (lw M0) (res r) (ld (V1 r)):=by
 simp only [Prod.mk.injEq] at hh
 exact zrg L M m hf hh.1 hN hh.2.1 (zrm hh.2.2.1) (zrn hh.2.2.2.1) hh.2.2.2.2 h
structure Cal (P:Program) (f:FuncId) (args:List AV) (M0:List VS) (r:AV) (M1:List VS):Prop where
 nm:∃ fn,P.funcs[f]? = some fn∧(fn.name == "runtime.NumGoroutine")=false∧fn.body.isSome=true
 c:ACalls P f args (lw M0) r (ld M1)
section
variable {P:Program} {ops:Array Oper} {o:Oper} {N:Nat} {s:St}
theorem cl {f:FuncId} {fo:Operand} {xs:Array Operand} {tys:Array TypeId} {first caps vs args0 all:List AV} {M0 M1:List VS} {r0 r:AV} {W:List VS} (hc:Cal P f args0 M0 r0 M1) (ns1 ns2:List Nat) (bs:List Bool)
  (h:(o.op,dlt o N,wnt ops o s.G,opd s.G fo,ZP s.G xs.toList,first++vs++caps,decide (ns1++ns2).Nodup)=(.call ⟨.value fo,xs,tys⟩,true,some true,some (.fn f first caps),some vs,all,true))
  (ha:RenL (nsO (ns1++ns2)) args0 all) (hp:Pass (nsO (ns1++ns2)) s.V M0 ns1) (hnew:∀ n ∈ ns2,s.V n = .fresh) (hW:RenVL (nsO (ns1++ns2)) M1 W) (hr:Ren (nsO (ns1++ns2)) r0 r) (hk:Kept s.V bs (ns1++ns2) W) (hWl:(ns1++ns2).length=W.length) :
  Snd P ops o N s ⟨gsl ops o++opr fo++xs.toList.flatMap opr,o.dst,some r,ns1++ns2,zipM bs (ns1++ns2) W⟩:=by
 simp only [Prod.mk.injEq] at h
 obtain ⟨h1,h2,h3,h4,h5,h6,h7⟩:=h
 obtain ⟨fn,k1,k2,k3⟩:=hc.nm
 exact zrc (P:=P) (ops:=ops) (o:=o) (N:=N) (s:=s) (f:=f) (fo:=fo) (xs:=xs) (tys:=tys) (first:=first) (caps:=caps) vs args0 fn M0 M1 r0 r ns1 ns2 W bs h1 h2 h3 h4 (zg6 h5) k1 k2 k3 hc.c (by rw [h6]; exact ha) hp h7 hnew hWl hW hr hk
theorem Pass.p {ρ:Nat→Option Nat} {V:Nat→VS} {T:TypeId} {a b:List AV} {n:Nat} {r:List VS} {ns:List Nat} (hV:V n = .live T b) (h:RenL ρ a b) (k:Pass ρ V r ns):Pass ρ V (.live T a :: r) (n :: ns):=.cons trivial (by rw [hV]; exact zg3 T h) k
end
section walk
variable {P:Program} {E:Ent} {N:Nat} {R:Type} {o:Option R} {Q:R→Exit→Act→World→Prop} {L:List (Nat × Option AV)} {M:List (Nat × VS)}
theorem TR.w2 {ops:Array Oper} {op:Oper} {l:List Oper} {rs rv:List Nat} {d x y:Nat} {v:AV} {c e:VS} (hs:Snd P ops op N (mkS L M) ⟨rs,some d,some v,rv,[(x,c),(y,e)]⟩) (h:TR P E N ops o l (mkS ((d,some v) :: L) ((x,c) :: (y,e) :: M)) Q):TR P E N ops o (op :: l) (mkS L M) Q:=TR.op hs (by rw [Zb]; exact h)
theorem TD.w2 {ops:List Oper} {op:Oper} {l:List Oper} {acc:List Ev} {rs rv:List Nat} {d x y:Nat} {v:AV} {c e:VS} (hs:Snd P ops.toArray op N (mkS L M) ⟨rs,some d,some v,rv,[(x,c),(y,e)]⟩) (h:TD P E N ops o l (mkS ((d,some v) :: L) ((x,c) :: (y,e) :: M)) (acc++[⟨rs,some d,some v,rv,[(x,c),(y,e)]⟩]) Q):TD P E N ops o (op :: l) (mkS L M) acc Q:=TD.op hs (by rw [Zb]; exact h)
end walk
end Go.Abs
