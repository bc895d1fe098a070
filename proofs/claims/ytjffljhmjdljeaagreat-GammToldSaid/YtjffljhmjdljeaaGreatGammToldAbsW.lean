/- The walk's steps that ask for something. -/
import Derived.Test.YtjffljhmjdljeaaGreatGammToldAbsV
set_option linter.unusedVariables false
set_option linter.unusedSimpArgs false
namespace Go.Abs
class Dt (v:AV):Prop where
 h:∀ ρ,Ren ρ v v
class DtL (l:List AV):Prop where
 h:∀ ρ,RenL ρ l l
class zdv (l:List (List AV)):Prop where
 h:∀ ρ,RenLL ρ l l
section
variable {α:Type} {K:Kd α}
instance {k:IntKind} {n:Int} : Dt (.int k n):=⟨fun _=>.int _ _⟩
instance {b:Bool} : Dt (.bool b):=⟨fun _=>.bool _⟩
instance {b:ByteArray} : Dt (.str b):=⟨fun _=>.str _⟩
instance {l:List α} : Dt (slK K l):=⟨fun _=>Q3 _⟩
instance:Dt .nilsl:=⟨fun _=>.nilsl⟩
instance:Dt .nilptr:=⟨fun _=>.nilptr⟩
instance:Dt .nilfn:=⟨fun _=>.nilfn⟩
instance:DtL []:=⟨fun _=>.nil⟩
instance {v:AV} {l:List AV} [h:Dt v] [k:DtL l]:DtL (v :: l):=⟨fun ρ=>.cons (h.h ρ) (k.h ρ)⟩
instance:zdv []:=⟨fun _=>.nil⟩
instance {v:List AV} {l:List (List AV)} [h:DtL v] [k:zdv l]:zdv (v :: l):=⟨fun ρ=>.cons (h.h ρ) (k.h ρ)⟩
instance {f:FuncId} {a c:List AV} [h:DtL a] [k:DtL c]:Dt (.fn f a c):=⟨fun ρ=>zU f (h.h ρ) (k.h ρ)⟩
instance {l:List AV} [h:DtL l]:Dt (.tup l):=⟨fun ρ=>zrb (h.h ρ)⟩
instance {l:List AV} [h:DtL l]:Dt (.agg l):=⟨fun ρ=>zjF (h.h ρ)⟩
instance {l:List (List AV)} [h:zdv l]:Dt (.sl l):=⟨fun ρ=>Zp (h.h ρ)⟩
instance {a:α} : DtL (K.enc a):=⟨fun ρ=>by
 have e:∀ l:List AV,(∀ i,Ren ρ (l.getD i .nilptr) (l.getD i .nilptr))→RenL ρ l l:=by
  intro l
  induction l with
  | nil=>intro _; exact .nil
  | cons v l ih=>intro h; exact .cons (by simpa using h 0) (ih fun i=>by simpa using h (i+1))
 exact e _ fun i=>K.dat a i ρ⟩
end
def iv:List (Nat × Nat)→Nat→Nat
 | [],y=>y
 | (x,y') :: r,y=>match Nat.beq y y' with
  | true=>x
  | false=>iv r y
def zeP:List (Nat × Nat)→Nat→Bool
 | [],_=>false
 | (_,y') :: r,y=>match Nat.beq y y' with
  | true=>true
  | false=>zeP r y
theorem zjU:∀ {l:List (Nat × Nat)} {y:Nat},zeP l y=true→(iv l y,y) ∈ l
 | [],y,h=>by cases h
 | (x,y') :: r,y,h=>by
  simp only [zeP] at h
  simp only [iv]
  split at h
  ·rename_i q; rw [Nat.eq_of_beq_eq_true q]; exact List.mem_cons_self
  ·exact List.mem_cons_of_mem _ (zjU h)
theorem znj {l:List (Nat × Nat)} (hn:(l.map (·.1)).Nodup) {x y:Nat} (h:(x,y) ∈ l):Zy l x=some y:=by
 induction l with
 | nil=>cases h
 | cons p r ih=>
  simp only [List.map_cons,List.nodup_cons] at hn
  rcases List.mem_cons.1 h with e | e
  ·subst e; simp [Zy]
  ·have:p.1≠x:=by rintro rfl; exact hn.1 (List.mem_map.2 ⟨_,e,rfl⟩)
   have k:=ih hn.2 e
   unfold Zy at k ⊢
   rw [List.find?_cons_of_neg (by simpa using this)]; exact k
def bk1 (l:List (Nat × Nat)):AV→AV
 | .ptr y off=>.ptr (iv l y) off
 | v=>v
def bk (l:List (Nat × Nat)):AV→AV
 | .ptr y off=>.ptr (iv l y) off
 | .row y sz off n=>.row (iv l y) sz off n
 | .fn f a c=>.fn f (a.map (bk1 l)) (c.map (bk1 l))
 | v=>v
def ck1 (l:List (Nat × Nat)):AV→Bool
 | .ptr y _=>zeP l y
 | _=>true
def ck (l:List (Nat × Nat)):AV→Bool
 | .ptr y _=>zeP l y
 | .row y _ _ _=>zeP l y
 | .fn _ a c=>a.all (ck1 l) && c.all (ck1 l)
 | _=>true
def Nd (l:List (Nat × Nat)):Prop:=(l.map (·.1)).Nodup
class Rn (v:AV):Prop where
 h:∀ l,Nd l→ck l v=true→Ren (Zy l) (bk l v) v
class RnF (a:List AV):Prop where
 h:∀ l,Nd l→a.all (ck1 l)=true→RenL (Zy l) (a.map (bk1 l)) a
class RnL (a:List AV):Prop where
 h:∀ l,Nd l→a.all (ck l)=true→RenL (Zy l) (a.map (bk l)) a
section
variable {α:Type} {K:Kd α}
instance {k:IntKind} {n:Int} : Rn (.int k n):=⟨fun _ _ _=>.int _ _⟩
instance {b:Bool} : Rn (.bool b):=⟨fun _ _ _=>.bool _⟩
instance {b:ByteArray} : Rn (.str b):=⟨fun _ _ _=>.str _⟩
instance {l:List α} : Rn (slK K l):=⟨fun _ _ _=>Q3 _⟩
instance:Rn .nilsl:=⟨fun _ _ _=>.nilsl⟩
instance:Rn .nilptr:=⟨fun _ _ _=>.nilptr⟩
instance:Rn .nilfn:=⟨fun _ _ _=>.nilfn⟩
instance {l:List (List AV)} [h:zdv l]:Rn (.sl l):=⟨fun _ _ _=>Zp (h.h _)⟩
instance {l:List AV} [h:DtL l]:Rn (.agg l):=⟨fun _ _ _=>zjF (h.h _)⟩
instance {y off:Nat} : Rn (.ptr y off):=⟨fun _ hn h=>.ptr _ _ _ (znj hn (zjU h))⟩
instance {y sz off n:Nat} : Rn (.row y sz off n):=⟨fun _ hn h=>.row _ _ _ _ _ (znj hn (zjU h))⟩
instance:RnF []:=⟨fun _ _ _=>.nil⟩
instance {y off:Nat} {r:List AV} [k:RnF r]:RnF (.ptr y off :: r):=⟨fun l hn h=>by
 simp only [List.all_cons,Bool.and_eq_true] at h
 exact .cons (.ptr _ _ _ (znj hn (zjU h.1))) (k.h l hn h.2)⟩
instance {f:FuncId} {a c:List AV} [h:RnF a] [k:RnF c]:Rn (.fn f a c):=⟨fun l hn q=>by
 simp only [ck,Bool.and_eq_true] at q
 exact zU f (h.h l hn q.1) (k.h l hn q.2)⟩
instance:RnL []:=⟨fun _ _ _=>.nil⟩
instance {v:AV} {r:List AV} [h:Rn v] [k:RnL r]:RnL (v :: r):=⟨fun l hn q=>by
 simp only [List.all_cons,Bool.and_eq_true] at q
 exact .cons (h.h l hn q.1) (k.h l hn q.2)⟩
end
class RL (L':LG):Prop where
 h:∀ l,Nd l→∀ G:Nat→Option AV,(L'.all fun p=>match p.2 with | some v=>ck l v | none=>false)=true→(L'.map fun p=>G p.1)=(L'.map fun p=>p.2.map (bk l))→SubG (Zy l) G L'
instance:RL []:=⟨fun _ _ _ _ _=>.nil⟩
instance {t:Nat} {v:AV} {r:LG} [h:Rn v] [k:RL r]:RL ((t,some v) :: r):=⟨fun l hn G q e=>by
 simp only [List.all_cons,Bool.and_eq_true] at q
 simp only [List.map_cons,List.cons.injEq,Option.map_some] at e
 exact .cons e.1 (.refl _) (h.h l hn q.1) (k.h l hn G q.2 e.2)⟩
def ckV (l:List (Nat × Nat)):VS→Bool
 | .live _ a=>a.all (ck l)
 | _=>true
def bkV (l:List (Nat × Nat)):VS→VS
 | .live T a=>.live T (a.map (bk l))
 | v=>v
def mE (V:Nat→VS):List (Nat × Nat)→LV→LV
 | [],[]=>[]
 | (x,y) :: l,(_,v) :: r=>(y,match v with | .dead=>.dead | _=>V x) :: mE V l r
 | _,_=>[(0,.dead)]
def mB (l0:List (Nat × Nat)):List (Nat × Nat)→LV→LV
 | [],[]=>[]
 | _ :: l,(y,v) :: r=>(y,bkV l0 v) :: mB l0 l r
 | _,_=>[(1,.dead)]
class RM (M':LV):Prop where
 h:∀ l0,Nd l0→∀ V l,(M'.all fun p=>ckV l0 p.2)=true→mE V l M'=mB l0 l M'→SubV (Zy l0) V l M'
instance:RM []:=⟨fun l0 _ V l _ e=>by
 cases l with
 | nil=>exact .nil
 | cons p l=>simp [mE,mB] at e⟩
instance {y:Nat} {r:LV} [k:RM r]:RM ((y,.dead) :: r):=⟨fun l0 hn V l q e=>by
 simp only [List.all_cons,Bool.and_eq_true] at q
 cases l with
 | nil=>simp [mE,mB] at e
 | cons p l=>
  obtain ⟨x,y'⟩:=p
  simp only [mE,mB,List.cons.injEq,Prod.mk.injEq] at e
  obtain ⟨⟨rfl,_⟩,e⟩:=e
  exact .cons (.dead _) .dead (k.h l0 hn V l q.2 e)⟩
instance {y:Nat} {T:TypeId} {a:List AV} {r:LV} [h:RnL a] [k:RM r]:RM ((y,.live T a) :: r):=⟨fun l0 hn V l q e=>by
 simp only [List.all_cons,Bool.and_eq_true] at q
 cases l with
 | nil=>simp [mE,mB] at e
 | cons p l=>
  obtain ⟨x,y'⟩:=p
  simp only [mE,mB,bkV,List.cons.injEq,Prod.mk.injEq] at e
  obtain ⟨⟨rfl,e1⟩,e⟩:=e
  exact .cons (by rw [e1]; exact .refl _) (zg3 T (h.h l0 hn q.1)) (k.h l0 hn V l q.2 e)⟩
instance {α:Type} {K:Kd α} {y:Nat} {T:TypeId} {a:List α} {r:LV} [k:RM r]:RM ((y,rwK K T a) :: r):=⟨fun l0 hn V l q e=>by
 simp only [List.all_cons,Bool.and_eq_true] at q
 cases l with
 | nil=>simp [mE,mB] at e
 | cons p l=>
  obtain ⟨x,y'⟩:=p
  unfold rwK at e
  simp only [mE,mB,bkV,List.cons.injEq,Prod.mk.injEq] at e
  obtain ⟨⟨rfl,e1⟩,e⟩:=e
  exact .cons (by rw [e1]; exact .refl _) (zm9 _ _) (k.h l0 hn V l q.2 e)⟩
def jB (m:Nat) (l:List (Nat × Nat)) (L':LG) (M':LV):Bool:=
 (decide (l.map (·.1)).Nodup && decide (l.map (·.2)).Nodup && (List.range m).all fun x=>l.contains (x,x)) && ((L'.all fun p=>match p.2 with | some v=>ck l v | none=>false) && (M'.all fun p=>ckV l p.2))
theorem jm {E:Ent} {N m:Nat} {L L':LG} {M M':LV} (l:List (Nat × Nat)) [h1:RL L'] [h2:RM M'] (hb:jB m l L' M'=true) (e1:(L'.map fun p=>lk L p.1)=(L'.map fun p=>p.2.map (bk l))) (e2:mE (lv M) l M'=mB l l M') (hE:∀ x,m≤x→E.A0 x=none):∀ a w,Conc E N (mkS L M) a w→Conc E N (mkS L' M') a w:=by
 unfold jB at hb
 rw [Bool.and_eq_true] at hb
 have hm:=hb.1
 have hn:=hb.2
 simp only [Bool.and_eq_true] at hn
 have hnd:Nd l:=by
  simp only [Bool.and_eq_true,decide_eq_true_eq] at hm
  exact hm.1.1
 exact jn l hE (h1.h l hnd _ hn.1 e1) (h2.h l hnd _ _ hn.2 e2) hm
abbrev eI (t:Nat) (n:Int):Nat × Option AV:=(t,some (.int .i64 n))
abbrev eW (t:Nat) (n:Int):Nat × Option AV:=(t,some (.int .u32 n))
abbrev eX (t:Nat) (n:Int):Nat × Option AV:=(t,some (.int .u64 n))
abbrev eB (t:Nat) (b:Bool):Nat × Option AV:=(t,some (.bool b))
abbrev eL (t:Nat) (l:List Int):Nat × Option AV:=(t,some (slK (kInt .u32) l))
abbrev eK {α:Type} (K:Kd α) (t:Nat) (l:List α):Nat × Option AV:=(t,some (slK K l))
abbrev eP (t x:Nat):Nat × Option AV:=(t,some (.ptr x 0))
def Ctl.pop:Ctl→Option (Array Oper × Oper × (Ev→Ctl))
 | .o a (op :: l)=>some (a,op,fun _=>.o a l)
 | .d a (op :: l) acc=>some (⟨a⟩,op,fun e=>.d a l (acc++[e]))
 | _=>none
def apS (L:LG) (M:LV):Ev→Option (LG × LV)
 | ⟨_,some t,v,_,w⟩=>match w with
  | []=>some ((t,v) :: L,M)
  | [a]=>some ((t,v) :: L,a :: M)
  | [a,b]=>some ((t,v) :: L,a :: b :: M)
  | [a,b,c]=>some ((t,v) :: L,a :: b :: c :: M)
  | _=>none
 | ⟨_,none,_,_,w⟩=>match w with
  | []=>some (L,M)
  | [a]=>some (L,a :: M)
  | [a,b]=>some (L,a :: b :: M)
  | _=>none
theorem zxv {L L':LG} {M M':LV} {e:Ev} (h:apS L M e=some (L',M')):e.patch (mkS L M)=mkS L' M':=by
 unfold apS at h
 split at h<;>split at h<;>cases h<;>exact Zb _ _ _
def isEnd:Exit→Bool
 | .normal=>true
 | .ret=>true
 | _=>false
def zdw (M:LV):Nat→List VS→List VS
 | _,[]=>[]
 | n,v :: l=>(match v with | .dead=>.dead | _=>lv M n) :: zdw M (n+1) l
theorem znk {L:LG} {M:LV} : ∀ {l:List VS} {n:Nat},zdw M n l=l→Left (mkS L M).V n l
 | [],n,_=>.nil n
 | v :: l,n,h=>by
  simp only [zdw,List.cons.injEq] at h
  cases v with
  | dead=>exact .d (znk h.2)
  | _=>exact .k h.1 (znk h.2)
def rv1 (tb:List (Nat × TE)) (L:LG) (M:LV):ResultVar→Option AV
 | .tmp t=>lk L t
 | .cell t T=>match lk L t with
  | some (.ptr x off)=>match lv M x with
   | .live _ cs=>obd (lkT tb T) fun e=>match e.n with
    | some n=>obd (ldL cs off n) fun l=>some (.agg l)
    | none=>cs[off]?
   | _=>none
  | _=>none
section
variable {P:Program} {E:Ent} {N m:Nat} {R:Type} {o:Option R} {c:Ctl} {L:LG} {M:LV} {k:List (Fr R)} {Q:R→Exit→Act→World→Prop} {tb:List (Nat × TE)}
theorem zeQ [ht:TB P tb] {r:ResultVar} {v:AV} (h:rv1 tb L M r=some v):RV P (mkS L M) r v:=by
 unfold rv1 at h
 split at h
 ·exact .t h
 ·split at h
  ·rename_i hp
   split at h
   ·rename_i hV
    obtain ⟨e,h1,h2⟩:=zt h
    split at h2
    ·rename_i hn
     obtain ⟨l,h3,h4⟩:=zt h2
     cases h4
     exact .a ((ht.ok _ _ h1).agg hn) (by simp only [mkS] at *; rw [hp,hV,h3])
    ·rename_i hn
     exact .c ((ht.ok _ _ h1).sca hn) (by simp only [mkS] at *; rw [hp,hV,h2])
   ·cases h
  ·cases h
theorem G.st {c':Ctl} {a:Array Oper} {op:Oper} {nx:Ev→Ctl} {e:Ev} {L':LG} {M':LV} (hp:c.pop=some (a,op,nx)) (hs:Snd P a op N (mkS L M) e) (ha:(apS L M e,nx e)=(some (L',M'),c')) (h:G P E N m o c' L' M' k Q):G P E N m o c L M k Q:=fun hE=>by
 simp only [Prod.mk.injEq] at ha
 have hq:=zxv ha.1
 have g:=h hE
 rw [← ha.2] at g
 unfold Ctl.pop at hp
 split at hp
 ·cases hp; exact TR.op hs (by rw [hq]; exact g)
 ·cases hp; exact TD.op hs (by rw [hq]; exact g)
 ·cases hp
theorem G.sv (v:AV) (wv:LV) {a:Array Oper} {op:Oper} {nx:Ev→Ctl} {e:Ev} {d:Nat} {L':LG} {M':LV} (hp:c.pop=some (a,op,nx)) (hs:Snd P a op N (mkS L M) e)
  (h:(e.d,e.dv,e.wv,apS L M ⟨[],some d,some v,[],wv⟩)=(some d,some v,wv,some (L',M'))) (g:G P E N m o (nx ⟨e.rs,some d,some v,e.rv,wv⟩) L' M' k Q):G P E N m o c L M k Q:=by
 obtain ⟨rs,d1,dv,rv,w⟩:=e
 simp only [Prod.mk.injEq] at h
 obtain ⟨rfl,rfl,rfl,h4⟩:=h
 exact G.st hp hs (by rw [show apS L M ⟨rs,some d,some v,rv,w⟩=apS L M ⟨[],some d,some v,[],w⟩ from rfl,h4]) g
theorem G.sm (wv:LV) {a:Array Oper} {op:Oper} {nx:Ev→Ctl} {e:Ev} {L':LG} {M':LV} (hp:c.pop=some (a,op,nx)) (hs:Snd P a op N (mkS L M) e)
  (h:(e.d,e.wv,apS L M ⟨[],none,none,[],wv⟩)=(none,wv,some (L',M'))) (g:G P E N m o (nx e) L' M' k Q):G P E N m o c L M k Q:=by
 obtain ⟨rs,d1,dv,rv,w⟩:=e
 simp only [Prod.mk.injEq] at h
 obtain ⟨rfl,rfl,h4⟩:=h
 exact G.st hp hs (by rw [show apS L M ⟨rs,none,dv,rv,w⟩=apS L M ⟨[],none,none,[],w⟩ from rfl,h4]) g
def tD (tb:List (Nat × TE)) (T:Nat):Option TypeDesc:=match lkT tb T with
 | some e=>e.d
 | none=>none
theorem zdx [ht:TB P tb] {T:Nat} {d:TypeDesc} (h:tD tb T=some d):P.underlying T=some d:=by
 unfold tD at h
 split at h
 ·rename_i e he; exact (ht.ok _ _ he).und h
 ·cases h
def tN (tb:List (Nat × TE)) (T:Nat):Option Nat:=match lkT tb T with
 | some e=>match e.n with
  | some n=>some n
  | none=>some 1
 | none=>none
theorem zg8 [ht:TB P tb] {T n:Nat} (h:tN tb T=some n):(P.info? T).map (·.size)=some n:=by
 unfold tN at h
 split at h
 ·rename_i e he
  split at h
  ·rename_i q hq; cases h
   obtain ⟨d,_,_,k⟩:=(ht.ok _ _ he).agg hq; exact k
  ·rename_i hq; cases h
   obtain ⟨d,_,_,k⟩:=(ht.ok _ _ he).sca hq; exact k
 ·cases h
theorem G.ln [TB P tb] {α:Type} {K:Kd α} {a:Array Oper} {op:Oper} {nx:Ev→Ctl} {T e:TypeId} {x:Operand} {l:List α} {d:Nat} (hp:c.pop=some (a,op,nx))
  (h:(op.op,dlt op N,wnt a op (lk L),opd (lk L) x,op.dst,tD tb T)=(.call ⟨.builtin .len,#[x],#[T]⟩,true,some true,some (slK K l),some d,some (.slice e)))
  (g:G P E N m o (nx ⟨gsl a op++[x].flatMap opr,some d,some (.int .i64 l.length),[],[]⟩) ((d,some (.int .i64 l.length)) :: L) M k Q):G P E N m o c L M k Q:=by
 simp only [Prod.mk.injEq] at h
 have hs:=zrd (P:=P) (s:=mkS L M) K T e x l h.1 (zdx h.2.2.2.2.2) h.2.1 h.2.2.1 h.2.2.2.1
 rw [h.2.2.2.2.1] at hs
 exact G.st hp hs rfl g
theorem G.ix [TB P tb] {α:Type} {K:Kd α} {a:Array Oper} {op:Oper} {nx:Ev→Ctl} {T e:TypeId} {x y:Operand} {l:List α} {d:Nat} {q:IntKind} {i:Int} (hp:c.pop=some (a,op,nx))
  (h:(op.op,dlt op N,wnt a op (lk L),opd (lk L) x,opd (lk L) y,op.dst,tD tb T,tN tb e)=(.indexAddr T x y,true,some true,some (slK K l),some (.int q i),some d,some (.slice e),some K.sz))
  (g:G P E N m o (nx ⟨gsl a op++[x,y].flatMap opr,some d,some (.iptr (K.enc (l.getD i.toNat K.z))),[],[]⟩) ((d,some (.iptr (K.enc (l.getD i.toNat K.z)))) :: L) M k Q) :
  G P E N m (if 0≤i∧i<(l.length:Int) then o else none) c L M k Q:=by
 simp only [Prod.mk.injEq] at h
 refine G.guard fun hi=>?_
 have hs:=zw5 (P:=P) (s:=mkS L M) K T e x y l q i h.1 (zdx h.2.2.2.2.2.2.1) (zg8 h.2.2.2.2.2.2.2) h.2.1 h.2.2.1 h.2.2.2.1 h.2.2.2.2.1 hi
 rw [h.2.2.2.2.2.1] at hs
 exact G.st hp hs rfl g
theorem as0 {a:Array Oper} {op:Oper} {x:Operand} (h:(op.op,dlt op N,wnt a op (lk L),opd (lk L) x)=(.assign x,true,some true,some .nilsl)):Snd P a op N (mkS L M) ⟨gsl a op++[x].flatMap opr,op.dst,some (slK (kInt .u32) []),[],[]⟩:=by
 simp only [Prod.mk.injEq] at h
 exact Snd.le (zdq x _ h.1 h.2.1 h.2.2.1 h.2.2.2) AVle.nil
def tZ (tb:List (Nat × TE)) (T:Nat):List AV:=match lkT tb T with
 | some e=>e.z
 | none=>[]
theorem zry [ht:TB P tb] {T:Nat} (h:tZ tb T≠[]):qR P T (tZ tb T):=by
 unfold tZ at *
 split at h
 ·rename_i te hte; exact (ht.ok _ _ hte).zero h
 ·exact absurd rfl h
theorem bs [ht:TB P tb] {α:Type} (K:Kd α) (l:List α) {a:Array Oper} {op:Oper} {T e len:Nat} {parts:Array (Nat × Operand)} (hk:(Nat.ble (len*K.sz) 16777216 && (Nat.ble 1 len && (Nat.ble 1 K.sz && Nat.beq (tZ tb e).length K.sz)))=true)
  (h:(op.op,dlt op N,wnt a op (lk L),tD tb T,tN tb e,zdt (lk L) (fun i=>some (i*K.sz,K.sz)) (Z8 (tZ tb e) (len*K.sz)) parts.toList,l.length)=(.buildSlice T len parts,true,some true,some (.slice e),some K.sz,some (l.map K.enc).flatten,len)) :
  Snd P a op N (mkS L M) ⟨gsl a op++(parts.toList.map (·.2)).flatMap opr,op.dst,some (slK K l),[],[]⟩:=by
 simp only [Prod.mk.injEq,Bool.and_eq_true] at h hk
 obtain ⟨h1,h2,h3,h4,h5,h6,h7⟩:=h
 obtain ⟨k1,k2,k3,k4⟩:=hk
 obtain ⟨pa,p1,p2⟩:=zjT h6
 have hz:qR P e (tZ tb e):=zry fun h0=>by
  rw [h0] at k4
  have:=Nat.eq_of_beq_eq_true k4
  have:=Nat.le_of_ble_eq_true k3
  simp at *; omega
 exact zqW T e len K.sz parts (tZ tb e) pa (l.map K.enc) h1 (zdx h4) hz (zg8 h5) (Nat.eq_of_beq_eq_true k4) h2 h3 (Nat.le_of_ble_eq_true k1) (Nat.le_of_ble_eq_true k2) (Nat.le_of_ble_eq_true k3) p1 p2 (Kd.even l) (by rw [List.length_map]; exact h7)
theorem G.kn (t:Nat) (d:Bool) {b:Bool} (h:lk L t=some (.bool b)) (hb:b=d) (g:G P E N m o c ((t,some (.bool d)) :: L) M k Q):G P E N m o c L M k Q:=fun hE=>by
 have:=g hE
 cases c<;>(unfold G0 at *; dsimp only at *; rw [know h hb]; exact this)
theorem G.cd {cn:Operand} {x y:Code} {b:Bool} {p:Prop} [Decidable p] {ot oe:Option R} (hc:opd (lk L) cn=some (.bool b)) (ht:b=true→p→G P E N m ot (.c x) L M k Q) (hf:b=false→¬p→G P E N m oe (.c y) L M k Q) (hp:b=true↔p:=by first | exact zjL | exact zjM | exact zjJ | exact zjN | exact zjO | exact zjK | exact zjP | exact zjQ) :
  G P E N m (if p then ot else oe) (.c (.cond cn x y)) L M k Q:=fun hE=>T.cond_p hc hp (fun h1 h2=>ht h1 h2 hE) fun h1 h2=>hf h1 h2 hE
theorem G.gd (t:Nat) {b:Bool} {p:Prop} [Decidable p] {o1 o2:Option R} (h:lk L t=some (.bool b)) (h1:p→G P E N m o1 c ((t,some (.bool true)) :: L) M k Q) (h2:¬p→G P E N m o2 c ((t,some (.bool false)) :: L) M k Q) (hp:b=true↔p:=by first | exact zjL | exact zjM | exact zjJ | exact zjN | exact zjO | exact zjK | exact zjP | exact zjQ):G P E N m (if p then o1 else o2) c L M k Q:=
 G.ite (fun q=>G.kn t true h (hp.2 q) (h1 q)) fun q=>G.kn t false h (by
  cases b with
  | false=>rfl
  | true=>exact absurd (hp.1 rfl) q) (h2 q)
theorem G.dn {a:List Oper} {acc:List Ev} (hok:zdo a acc=true) (g:G P E N m o (.x .normal) L M k Q):G P E N m o (.d a [] acc) L M k Q:=fun hE=>TD.nil hok (g hE)
def GJ (P:Program) (E:Ent) (N m:Nat) {R:Type} (t:Option R × LG × LV) (k:List (Fr R)) (Q:R→Exit→Act→World→Prop):Prop:=G P E N m t.1 (.x .normal) t.2.1 t.2.2 k Q
theorem G.cut {X:Type} (j:X→Option R × LG × LV) (hj:∀ x,G P E N m (j x).1 (.x .normal) (j x).2.1 (j x).2.2 k Q) (h:(∀ x,GJ P E N m (j x) k Q)→G P E N m o c L M k Q):G P E N m o c L M k Q:=h hj
theorem G.jw {t:Option R × LG × LV} {L':LG} {M':LV} (h:GJ P E N m t k Q) (l:List (Nat × Nat)) [RL L'] [RM M'] (e:(t,jB m l L' M',(L'.map fun p=>lk L p.1),mE (lv M) l M')=((o,L',M'),true,(L'.map fun p=>p.2.map (bk l)),mB l l M')):G P E N m o (.x .normal) L M k Q:=by
 simp only [Prod.mk.injEq] at e
 obtain ⟨e1,e2,e3,e4⟩:=e
 subst e1
 exact fun hE=>G.weak h (jm l e2 e3 e4 hE) rfl hE
theorem G.jo {t:Option R × LG × LV} {L':LG} {M':LV} (h:GJ P E N m t k Q) (e:t=(o,L',M')) (hs:(∀ x,m≤x→E.A0 x=none)→∀ a w,Conc E N (mkS L M) a w→Conc E N (mkS L' M') a w):G P E N m o (.x .normal) L M k Q:=by
 subst e
 exact fun hE=>G.weak h (hs hE) rfl hE
theorem G.lo {X:Type} {body:Code} (F:Nat→X→Option R) (st:X→LG × LV) (x:X) {L':LG} {M':LV} (e:(st x,F fuel x)=((L',M'),o)) (hs:(∀ x,m≤x→E.A0 x=none)→∀ a w,Conc E N (mkS L M) a w→Conc E N (mkS L' M') a w)
  (hb:∀ n x,G P E N m (F (n+1) x) (.c body) (st x).1 (st x).2 (.l X F st (n+1) :: k) Q) (hz:∀ x,F 0 x=none:=by exact fun _=>rfl):G P E N m o (.c (.loop body)) L M k Q:=by
 simp only [Prod.mk.injEq] at e
 obtain ⟨e1,e2⟩:=e
 exact fun hE=>T.loopW F (fun x=>mkS (st x).1 (st x).2) x (by rw [e1]; exact hs hE) hz e2 fun n x=>hb n x hE
theorem G.lp {X:Type} {body:Code} (F:Nat→X→Option R) (st:X→LG × LV) (x:X) (l:List (Nat × Nat)) {L':LG} {M':LV} [RL L'] [RM M'] (e:((st x,F fuel x),jB m l L' M',(L'.map fun p=>lk L p.1),mE (lv M) l M')=(((L',M'),o),true,(L'.map fun p=>p.2.map (bk l)),mB l l M'))
  (hb:∀ n x,G P E N m (F (n+1) x) (.c body) (st x).1 (st x).2 (.l X F st (n+1) :: k) Q) (hz:∀ x,F 0 x=none:=by exact fun _=>rfl):G P E N m o (.c (.loop body)) L M k Q:=by
 simp only [Prod.mk.injEq] at e
 obtain ⟨⟨e0,e1⟩,e2,e3,e4⟩:=e
 exact G.lo F st x (by rw [e0,e1]) (jm l e2 e3 e4) hb hz
theorem G.ao {X:Type} {F:Nat→X→Option R} {st:X→LG × LV} {n:Nat} (x:X) {L':LG} {M':LV} (e:(st x,F n x)=((L',M'),o)) (hs:(∀ x,m≤x→E.A0 x=none)→∀ a w,Conc E N (mkS L M) a w→Conc E N (mkS L' M') a w):G P E N m o (.x .normal) L M (.l X F st (n+1) :: k) Q:=by
 simp only [Prod.mk.injEq] at e
 obtain ⟨e1,e2⟩:=e
 exact fun hE=>TQ.again x (by rw [e1]; exact hs hE) e2
theorem G.ag {X:Type} {F:Nat→X→Option R} {st:X→LG × LV} {n:Nat} (x:X) (l:List (Nat × Nat)) {L':LG} {M':LV} [RL L'] [RM M'] (e:((st x,F n x),jB m l L' M',(L'.map fun p=>lk L p.1),mE (lv M) l M')=(((L',M'),o),true,(L'.map fun p=>p.2.map (bk l)),mB l l M')):G P E N m o (.x .normal) L M (.l X F st (n+1) :: k) Q:=by
 simp only [Prod.mk.injEq] at e
 obtain ⟨⟨e0,e1⟩,e2,e3,e4⟩:=e
 exact G.ao x (by rw [e0,e1]) (jm l e2 e3 e4)
def rvL (tb:List (Nat × TE)) (L:LG) (M:LV):List ResultVar→Option (List AV)
 | []=>some []
 | r :: l=>obd (rv1 tb L M r) fun v=>obd (rvL tb L M l) fun vs=>some (v :: vs)
def mkT:List AV→AV
 | [v]=>v
 | l=>.tup l
theorem G.fj [TB P tb] {r:R} {fn:Func} {res:R→AV} {V1:R→List VS} {e:Exit} {vs:List AV} {rs:List ResultVar} (hr:fn.results=⟨rs⟩) (h:(isEnd e,zdw M 0 (V1 r),rvL tb L M rs,Nat.ble rs.length 3)=(true,V1 r,some vs,true)) (hv:AVle (mkT vs) (res r)):G P E N m (some r) (.x e) L M [] (fin P fn E res fun r=>ld (V1 r)):=fun _=>by
 simp only [Prod.mk.injEq] at h
 obtain ⟨h1,h2,h3,h4⟩:=h
 have he:e = .normal∨e = .ret:=by
  cases e<;>first | exact .inl rfl | exact .inr rfl | cases h1
 have hl:=znk (L:=L) h2
 match rs,hr,h3,h4 with
 | [],hr,h3,_=>cases h3; exact zw0 he hl hr hv
 | [r1],hr,h3,_=>
  obtain ⟨v1,a1,a2⟩:=zt h3
  obtain ⟨_,b1,b2⟩:=zt a2
  cases b1; cases b2
  exact zjE he hl hr (zeQ a1) hv
 | [r1,r2],hr,h3,_=>
  obtain ⟨v1,a1,a2⟩:=zt h3
  obtain ⟨_,b1,b2⟩:=zt a2
  obtain ⟨v2,c1,c2⟩:=zt b1
  obtain ⟨_,d1,d2⟩:=zt c2
  cases d1; cases d2; cases b2
  exact zw1 he hl hr (zeQ a1) (zeQ c1) hv
 | [r1,r2,r3],hr,h3,_=>
  obtain ⟨v1,a1,a2⟩:=zt h3
  obtain ⟨_,b1,b2⟩:=zt a2
  obtain ⟨v2,c1,c2⟩:=zt b1
  obtain ⟨_,d1,d2⟩:=zt c2
  obtain ⟨v3,f1,f2⟩:=zt d1
  obtain ⟨_,g1,g2⟩:=zt f2
  cases g1; cases g2; cases d2; cases b2
  exact zw2 he hl hr (zeQ a1) (zeQ c1) (zeQ f1) hv
 | _ :: _ :: _ :: _ :: _,_,_,h4=>cases h4
theorem G.fi [TB P tb] {r:R} {fn:Func} {res:R→AV} {V1:R→List VS} {e:Exit} {vs:List AV} {rs:List ResultVar} (hr:fn.results=⟨rs⟩) (h:((isEnd e,zdw M 0 (V1 r),rvL tb L M rs,Nat.ble rs.length 3),mkT vs)=((true,V1 r,some vs,true),res r)):G P E N m (some r) (.x e) L M [] (fin P fn E res fun r=>ld (V1 r)):=by
 simp only [Prod.mk.injEq] at h
 refine G.fj hr (vs:=vs) ?_ (by rw [h.2]; exact AVle.refl _)
 rw [h.1.1,h.1.2.1,h.1.2.2.1,h.1.2.2.2]
theorem G.q {e:Exit} (h:TQ E N o e (mkS L M) (kQ P E N k Q)):G P E N m o (.x e) L M k Q:=fun _=>h
class PC {α:Type} (q:Option α) (P:outParam Program) (f:outParam Nat) (as:outParam (List AV)) (R:outParam (α→AV)):Prop where
 p:∀ r,q=some r→Pur P f as (R r)
class CC {α:Type} (q:Option α) (P:outParam Program) (f:outParam Nat) (as:outParam (List AV)) (M0:outParam (List VS)) (R:outParam (α→AV)) (M1:outParam (α→List VS)):Prop where
 p:∀ r,q=some r→Cal P f as M0 (R r) (M1 r)
theorem CC.h {α:Type} {q:Option α} {f:Nat} {as:List AV} {M0:List VS} {R:α→AV} {M1:α→List VS} [h:CC q P f as M0 R M1] {r:α} (e:q=some r):Cal P f as M0 (R r) (M1 r):=h.p r e
theorem cc {f:FuncId} {fn:Func} {cd:Code} {args:List AV} {M0:List VS} {res:R→AV} {V1:R→List VS} (hf:P.funcs[f]? = some fn) (hn:(fn.name == "runtime.NumGoroutine")=false)
  (hh:(fn.ntmps,fn.body,Nat.ble args.length N,zcj 0 args,zdu 0 M0,M0.length)=(N,some cd,true,some L,some M,m)) (h:∀ E,G P E N m o (.c cd) L M [] (fin P fn E res fun r=>ld (V1 r))):CC o P f args M0 res V1:=by
 simp only [Prod.mk.injEq] at hh
 refine ⟨fun r hr=>⟨⟨fn,hf,hn,by rw [hh.2.1]; rfl⟩,go m hf hh.1 ?_ (fun E hE=>h E hE) r hr⟩⟩
 rw [hh.2.1,hh.2.2.1,hh.2.2.2.1,hh.2.2.2.2.1,hh.2.2.2.2.2]
theorem pc {f:FuncId} {fn:Func} {cd:Code} {args:List AV} {res:R→AV} [da:DtL args] [dr:∀ r,Dt (res r)] (hf:P.funcs[f]? = some fn) (hn:(fn.name == "runtime.NumGoroutine")=false)
  (hh:(fn.ntmps,fn.body,Nat.ble args.length N,zcj 0 args)=(N,some cd,true,some L)) (h:∀ E,G P E N 0 o (.c cd) L [] [] (fin P fn E res fun _=>ld [])):PC o P f args res:=by
 simp only [Prod.mk.injEq] at hh
 refine ⟨fun r hr=>?_⟩
 have:=(cc (o:=o) (M0:=[]) (V1:=fun _=>[]) (m:=0) (M:=[]) (args:=args) (res:=res) hf hn (by rw [hh.1,hh.2.1,hh.2.2.1,hh.2.2.2]; rfl) h).p r hr
 exact ⟨this.nm,this.c,fun ρ=>da.h ρ,fun ρ=>(dr r).h ρ⟩
theorem G.p0 {α:Type} {q:Option α} {f:Nat} {as:List AV} {R':α→AV} [hq:PC q P f as R'] {F:α→Option R} {a:Array Oper} {op:Oper} {nx:Ev→Ctl} {fo:Operand} {xs:Array Operand} {tys:Array TypeId} {first caps vs:List AV} {d:Nat} (hp:c.pop=some (a,op,nx))
  (h:(op.op,dlt op N,wnt a op (lk L),opd (lk L) fo,ZP (lk L) xs.toList,first++vs++caps,op.dst)=(.call ⟨.value fo,xs,tys⟩,true,some true,some (.fn f first caps),some vs,as,some d))
  (g:∀ x,q=some x→G P E N m (F x) (nx ⟨gsl a op++opr fo++xs.toList.flatMap opr,some d,some (R' x),[],[]⟩) ((d,some (R' x)) :: L) M k Q):G P E N m (q.bind F) c L M k Q:=by
 refine G.bind fun x hx=>?_
 simp only [Prod.mk.injEq] at h
 have hs:Snd P a op N (mkS L M) _:=c0 (s:=mkS L M) (fo:=fo) (xs:=xs) (tys:=tys) (first:=first) (caps:=caps) (vs:=vs) (hq.p x hx) (by simp only [mkS] at *; rw [h.1,h.2.1,h.2.2.1,h.2.2.2.1,h.2.2.2.2.1,h.2.2.2.2.2.1])
 rw [h.2.2.2.2.2.2] at hs
 exact G.st hp hs rfl (g x hx)
end
end Go.Abs
