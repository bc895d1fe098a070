/- The walk finds its own way: steps that ask for no word. -/
import Derived.Test.YtjffljhmjdljeaaGreatGammToldAbsY
import Derived.KernelRfl
set_option linter.unusedVariables false
set_option linter.unusedSimpArgs false
namespace Go.Abs
def auO:Op→Bool
 | .move _=>true
 | .assign _=>true
 | .alloc _=>true
 | .box _ _=>true
 | .build _ _=>true
 | .load _ _=>true
 | .store _ _ _=>true
 | .nilCheck _=>true
 | .binOp op _ _ _ _=>match op with
  | .shl=>false
  | .shr=>false
  | .quo=>false
  | .rem=>false
  | _=>true
 | .unOp _ _ _=>true
 | .convert _ _ _=>true
 | .makeFunc _ _ _=>true
 | .fieldAddr _ _ _=>true
 | .extract _ _=>true
 | .call ⟨.builtin .min,_,_⟩=>true
 | .call ⟨.builtin .max,_,_⟩=>true
 | _=>false
def auG (o:Oper):Bool:=match o.guard with
 | none=>auO o.op
 | some _=>false
def hlt {R:Type} (k:List (Fr R)):Ctl→Bool
 | .c (.cond _ _ _)=>true
 | .c (.loop _)=>true
 | .o _ (op :: _)=>!auG op
 | .d _ (op :: _) _=>!auG op
 | .d _ [] _=>true
 | .x .normal=>true
 | .x _=>match k with
  | []=>true
  | _=>false
 | _=>false
def bxF (L:LG):Op→Bool
 | .box _ y=>match opd (lk L) y with
  | some (.fn _ [] [])=>true
  | _=>false
 | _=>false
def hl2 (L:LG):Ctl→Bool
 | .o _ (op :: _)=>bxF L op.op
 | .d _ (op :: _) _=>bxF L op.op
 | _=>false
def adM (tb:List (Nat × TE)) (N:Nat) {R:Type} : Nat→Ctl→LG→LV→List (Fr R)→Option (Ctl × LG × LV × List (Fr R))
 | 0,c,L,M,k=>some (c,L,M,k)
 | n+1,c,L,M,k=>match hlt k c,hl2 L c with
  | false,false=>match one tb N c L M k with
   | some (c,L,M,k)=>adM tb N n c L M k
   | none=>some (c,L,M,k)
  | _,_=>some (c,L,M,k)
def lkN:List (Nat × Nat)→Nat→Option Nat
 | [],_=>none
 | (y,x) :: r,z=>match Nat.beq y z with
  | true=>some x
  | false=>lkN r z
def adN (y x:Nat) (l:List (Nat × Nat)):Option (List (Nat × Nat)):=match lkN l y with
 | some _=>some l
 | none=>some ((y,x) :: l)
def pr0:AV→AV→List (Nat × Nat)→Option (List (Nat × Nat))
 | .ptr y _,.ptr x _,l=>adN y x l
 | _,_,l=>some l
def prF:List AV→List AV→List (Nat × Nat)→Option (List (Nat × Nat))
 | a :: r,b :: s,l=>obd (pr0 a b l) fun l=>prF r s l
 | _,_,l=>some l
def pr1:AV→AV→List (Nat × Nat)→Option (List (Nat × Nat))
 | .ptr y _,.ptr x _,l=>adN y x l
 | .row y _ _ _,.row x _ _ _,l=>adN y x l
 | .fn _ a c,.fn _ b d,l=>obd (prF a b l) fun l=>prF c d l
 | _,_,l=>some l
def prL:List AV→List AV→List (Nat × Nat)→Option (List (Nat × Nat))
 | a :: r,b :: s,l=>obd (pr1 a b l) fun l=>prL r s l
 | _,_,l=>some l
def prV:VS→VS→List (Nat × Nat)→Option (List (Nat × Nat))
 | .live _ a,.live _ b,l=>prL a b l
 | _,_,l=>some l
def prM (M:LV):Nat→List VS→List (Nat × Nat)→Option (List (Nat × Nat))
 | _,[],l=>some l
 | i,v :: r,l=>match lkN l i with
  | some x=>obd (prV v (lv M x) l) fun l=>prM M (i+1) r l
  | none=>prM M (i+1) r l
def ns1 (l:List (Nat × Nat)):Nat→List VS→Option (List Nat)
 | _,[]=>some []
 | i,_ :: r=>obd (lkN l i) fun x=>obd (ns1 l (i+1) r) fun t=>some (x :: t)
def drp:List VS→List Bool→Option (List Bool)
 | [],b=>some b
 | _ :: r,b=>match b with
  | []=>none
  | _ :: b=>drp r b
def frs (M:LV):List Nat→List Bool→Option (List Nat)
 | [],b=>match b with
  | []=>some []
  | _ :: _=>none
 | z :: c,b=>match b with
  | []=>some []
  | x :: bs=>match zg7 M z with
   | true=>frs M c (x :: bs)
   | false=>obd (frs M c bs) fun t=>some (z :: t)
def nmO (as vals:List AV) (M0:List VS) (bs:List Bool) (M:LV):Option (List Nat × List Nat):=
 obd (prL as vals []) fun l=>obd (prM M 0 M0 l) fun l=>obd (ns1 l 0 M0) fun a=>obd (drp M0 bs) fun d=>obd (frs M znh d) fun b=>some (a,b)
def lkI:List Nat→Nat→Option Nat
 | [],_=>none
 | x :: r,i=>match i with
  | 0=>some x
  | i+1=>lkI r i
theorem zjW:∀ {l:List Nat} {i x:Nat},lkI l i=some x→okN l i=true∧fk l i=x
 | [],_,_,h=>by cases h
 | y :: r,0,x,h=>by cases h; exact ⟨by simp [okN],rfl⟩
 | y :: r,i+1,x,h=>by
  obtain ⟨a,b⟩:=zjW (l:=r) h
  refine ⟨?_,b⟩
  have:=of_decide_eq_true a
  exact decide_eq_true (by simp only [List.length_cons]; omega)
def f1 (ns:List Nat):AV→Option AV
 | .ptr y off=>obd (lkI ns y) fun x=>some (.ptr x off)
 | v=>some v
def fL1 (ns:List Nat):List AV→Option (List AV)
 | []=>some []
 | v :: r=>obd (f1 ns v) fun a=>obd (fL1 ns r) fun t=>some (a :: t)
def f2 (ns:List Nat):AV→Option AV
 | .ptr y off=>obd (lkI ns y) fun x=>some (.ptr x off)
 | .row y sz off n=>obd (lkI ns y) fun x=>some (.row x sz off n)
 | .fn f a c=>obd (fL1 ns a) fun a=>obd (fL1 ns c) fun c=>some (.fn f a c)
 | .tup l=>obd (fL1 ns l) fun l=>some (.tup l)
 | v=>some v
def fL2 (ns:List Nat):List AV→Option (List AV)
 | []=>some []
 | v :: r=>obd (f2 ns v) fun a=>obd (fL2 ns r) fun t=>some (a :: t)
def f3 (ns:List Nat):VS→Option VS
 | .live T a=>obd (fL2 ns a) fun a=>some (.live T a)
 | v=>some v
def fL3 (ns:List Nat):List VS→Option (List VS)
 | []=>some []
 | v :: r=>obd (f3 ns v) fun a=>obd (fL3 ns r) fun t=>some (a :: t)
theorem zxz {ns:List Nat} {v u:AV} (h:f1 ns v=some u):ok1 ns v=true∧fw1 ns v=u:=by
 cases v<;>first | (cases h; exact ⟨rfl,rfl⟩) | (obtain ⟨x,h1,h2⟩:=zt h; cases h2; obtain ⟨a,b⟩:=zjW h1; exact ⟨a,by simp only [fw1,b]⟩)
theorem zjX {ns:List Nat} : ∀ {v u:List AV},fL1 ns v=some u→v.all (ok1 ns)=true∧v.map (fw1 ns)=u
 | [],u,h=>by cases h; exact ⟨rfl,rfl⟩
 | v :: r,u,h=>by
  obtain ⟨a,h1,h2⟩:=zt h
  obtain ⟨t,h3,h4⟩:=zt h2
  cases h4
  obtain ⟨q1,q2⟩:=zxz h1
  obtain ⟨q3,q4⟩:=zjX h3
  exact ⟨by simp only [List.all_cons,q1,q3,Bool.and_self],by simp only [List.map_cons,q2,q4]⟩
theorem zrA {ns:List Nat} {v u:AV} (h:f2 ns v=some u):okF ns v=true∧fw ns v=u:=by
 cases v with
 | ptr y off=>obtain ⟨x,h1,h2⟩:=zt h; cases h2; obtain ⟨a,b⟩:=zjW h1; exact ⟨a,by simp only [fw,b]⟩
 | row y sz off n=>obtain ⟨x,h1,h2⟩:=zt h; cases h2; obtain ⟨a,b⟩:=zjW h1; exact ⟨a,by simp only [fw,b]⟩
 | fn f a c=>
  obtain ⟨x,h1,h2⟩:=zt h
  obtain ⟨y,h3,h4⟩:=zt h2
  cases h4
  obtain ⟨q1,q2⟩:=zjX h1
  obtain ⟨q3,q4⟩:=zjX h3
  exact ⟨by simp only [okF,q1,q3,Bool.and_self],by simp only [fw,q2,q4]⟩
 | tup l=>
  obtain ⟨x,h1,h2⟩:=zt h
  cases h2
  obtain ⟨q1,q2⟩:=zjX h1
  exact ⟨q1,by simp only [fw,q2]⟩
 | _=>cases h; exact ⟨rfl,rfl⟩
theorem znn {ns:List Nat} : ∀ {v u:List AV},fL2 ns v=some u→v.all (okF ns)=true∧v.map (fw ns)=u
 | [],u,h=>by cases h; exact ⟨rfl,rfl⟩
 | v :: r,u,h=>by
  obtain ⟨a,h1,h2⟩:=zt h
  obtain ⟨t,h3,h4⟩:=zt h2
  cases h4
  obtain ⟨q1,q2⟩:=zrA h1
  obtain ⟨q3,q4⟩:=znn h3
  exact ⟨by simp only [List.all_cons,q1,q3,Bool.and_self],by simp only [List.map_cons,q2,q4]⟩
theorem zxA {ns:List Nat} {v u:VS} (h:f3 ns v=some u):okV ns v=true∧fwV ns v=u:=by
 cases v with
 | live T a=>
  obtain ⟨x,h1,h2⟩:=zt h
  cases h2
  obtain ⟨q1,q2⟩:=znn h1
  exact ⟨q1,by simp only [fwV,q2]⟩
 | _=>cases h; exact ⟨rfl,rfl⟩
theorem zno {ns:List Nat} : ∀ {v u:List VS},fL3 ns v=some u→v.all (okV ns)=true∧v.map (fwV ns)=u
 | [],u,h=>by cases h; exact ⟨rfl,rfl⟩
 | v :: r,u,h=>by
  obtain ⟨a,h1,h2⟩:=zt h
  obtain ⟨t,h3,h4⟩:=zt h2
  cases h4
  obtain ⟨q1,q2⟩:=zxA h1
  obtain ⟨q3,q4⟩:=zno h3
  exact ⟨by simp only [List.all_cons,q1,q3,Bool.and_self],by simp only [List.map_cons,q2,q4]⟩
class KpV (v w:VS) (b:outParam Bool):Prop where
 h:True
instance (priority:=low) kpt {v w:VS} : KpV v w true:=⟨trivial⟩
instance kpf {v:VS} : KpV v v false:=⟨trivial⟩
class KpL (M0 M1:List VS) (bs:outParam (List Bool)):Prop where
 h:True
instance:KpL [] [] []:=⟨trivial⟩
instance {v:VS} {r:List VS} {b:List Bool} [KpL [] r b]:KpL [] (v :: r) (true :: b):=⟨trivial⟩
instance {v w:VS} {r s:List VS} {x:Bool} {b:List Bool} [KpV v w x] [KpL r s b]:KpL (v :: r) (w :: s) (x :: b):=⟨trivial⟩
def apW (L:LG) (M:LV) (t:Nat) (v:AV):LV→Option (LG × LV)
 | []=>some ((t,some v) :: L,M)
 | [a]=>some ((t,some v) :: L,a :: M)
 | [a,b]=>some ((t,some v) :: L,a :: b :: M)
 | [a,b,c]=>some ((t,some v) :: L,a :: b :: c :: M)
 | [a,b,c,d]=>some ((t,some v) :: L,a :: b :: c :: d :: M)
 | [a,b,c,d,e]=>some ((t,some v) :: L,a :: b :: c :: d :: e :: M)
 | _=>none
theorem zxB {L L':LG} {M M':LV} {t:Nat} {v:AV} {w:LV} (h:apW L M t v w=some (L',M')) (rs rv:List Nat):(⟨rs,some t,some v,rv,w⟩:Ev).patch (mkS L M)=mkS L' M':=by
 unfold apW at h
 split at h<;>cases h<;>exact Zb _ _ _
def prG (G:Nat→Option AV):LG→List (Nat × Nat)→Option (List (Nat × Nat))
 | [],l=>some l
 | (t,some v) :: r,l=>match G t with
  | some w=>obd (pr1 v w l) fun l=>prG G r l
  | none=>prG G r l
 | (_,none) :: r,l=>prG G r l
def prW (M:LV):LV→List (Nat × Nat)→Option (List (Nat × Nat))
 | [],l=>some l
 | (y,v) :: r,l=>match lkN l y with
  | some x=>obd (prV v (lv M x) l) fun l=>prW M r l
  | none=>prW M r l
def pId:Nat→List (Nat × Nat)→Option (List (Nat × Nat))
 | 0,l=>some l
 | n+1,l=>pId n ((n,n) :: l)
def prZ (l:List (Nat × Nat)):LV→Option (List (Nat × Nat))
 | []=>some []
 | (y,_) :: r=>match lkN l y with
  | some x=>obd (prZ l r) fun t=>some ((x,y) :: t)
  | none=>obd (prZ l r) fun t=>some ((y,y) :: t)
def prO (m:Nat) (L:LG) (M:LV) (L':LG) (M':LV):Option (List (Nat × Nat)):=
 obd (pId m []) fun l=>obd (prG (lk L) L' l) fun l=>obd (prW M M' l) fun l=>obd (prW M M' l) fun l=>obd (prW M M' l) fun l=>prZ l M'
section
variable {P:Program} {E:Ent} {N m:Nat} {R:Type} {o o':Option R} {c:Ctl} {L:LG} {M:LV} {k:List (Fr R)} {Q:R→Exit→Act→World→Prop} {tb:List (Nat × TE)}
theorem zrB [TB P tb]:∀ {n:Nat} {c:Ctl} {L:LG} {M:LV} {k:List (Fr R)} {c':Ctl} {L':LG} {M':LV} {k':List (Fr R)},adM tb N n c L M k=some (c',L',M',k')→G0 P E N o c' L' M' k' Q→G0 P E N o c L M k Q
 | 0,c,L,M,k,c',L',M',k',h,g=>by cases h; exact g
 | n+1,c,L,M,k,c',L',M',k',h,g=>by
  simp only [adM] at h
  split at h
  ·split at h
   ·rename_i q; exact zni q (zrB h g)
   ·cases h; exact g
  ·cases h; exact g
def adP (tb:List (Nat × TE)) (N:Nat) (c:Ctl) (L:LG) (M:LV) (k:List (Fr R)):Option (Ctl × LG × LV × List (Fr R)):=match one tb N c L M k with
 | some (c,L,M,k)=>adM tb N 500 c L M k
 | none=>none
theorem G.gm [TB P tb] {c':Ctl} {L':LG} {M':LV} {k':List (Fr R)} (h:adP tb N c L M k=some (c',L',M',k')) (g:G P E N m o c' L' M' k' Q):G P E N m o c L M k Q:=fun hE=>by
 unfold adP at h
 split at h
 ·rename_i q; exact zni q (zrB h (g hE))
 ·cases h
theorem G.sT {c':Ctl} {a:Array Oper} {op:Oper} {nx:Ev→Ctl} {e:Ev} {L':LG} {M':LV} (hp:c.pop=some (a,op,nx)) (hs:Snd P a op N (mkS L M) e) (hq:e.patch (mkS L M)=mkS L' M') (hc:nx e=c') (h:G P E N m o c' L' M' k Q):G P E N m o c L M k Q:=fun hE=>by
 have g:=h hE
 rw [← hc] at g
 unfold Ctl.pop at hp
 split at hp
 ·cases hp; exact TR.op hs (by rw [hq]; exact g)
 ·cases hp; exact TD.op hs (by rw [hq]; exact g)
 ·cases hp
theorem G.p1 {α:Type} {q:Option α} {f:Nat} {as:List AV} {R':α→AV} {F:α→Option R} {a:Array Oper} {op:Oper} {nx:Ev→Ctl} {fo:Operand} {xs:Array Operand} {tys:Array TypeId} {first caps vs:List AV} {d:Nat} (hp:c.pop=some (a,op,nx))
  (h0:op.op = .call ⟨.value fo,xs,tys⟩) (ho:o=q.bind F) [hq:PC q P f as R'] (h:(dlt op N,wnt a op (lk L),opd (lk L) fo,ZP (lk L) xs.toList,first++vs++caps,op.dst)=(true,some true,some (.fn f first caps),some vs,as,some d))
  (g:∀ x,q=some x→G P E N m (F x) (nx ⟨gsl a op++opr fo++xs.toList.flatMap opr,some d,some (R' x),[],[]⟩) ((d,some (R' x)) :: L) M k Q):G P E N m o c L M k Q:=by
 subst ho
 simp only [Prod.mk.injEq] at h
 exact G.p0 (first:=first) (caps:=caps) hp (by rw [h0,h.1,h.2.1,h.2.2.1,h.2.2.2.1,h.2.2.2.2.1,h.2.2.2.2.2]) g
theorem G.cx {f:Nat} {as:List AV} {M0:List VS} {r0 r1:AV} {m1 w1:List VS} {bs:List Bool} {ns1 ns2:List Nat} {a:Array Oper} {op:Oper} {nx:Ev→Ctl} {fo:Operand} {xs:Array Operand} {tys:Array TypeId} {first caps vs:List AV} {d:Nat} {L':LG} {M':LV} {c':Ctl} (hp:c.pop=some (a,op,nx))
  (h0:op.op = .call ⟨.value fo,xs,tys⟩) (ha:FwL as) (hm:QG M0) (hr:Fw r0) (hw:QG m1)
  (h:(dlt op N,wnt a op (lk L),opd (lk L) fo,ZP (lk L) xs.toList,op.dst)=(true,some true,some (.fn f first caps),some vs,some d))
  (h2:(fL2 (ns1++ns2) as,fL3 (ns1++ns2) M0,(decide (ns1++ns2).Nodup,M0.all onB,frB M ns2))=(some (first++vs++caps),some (ns1.map (lv M)),true,true,true))
  (hx:(f2 (ns1++ns2) r0,fL3 (ns1++ns2) m1)=(some r1,some w1))
  (hy:((kB bs (ns1++ns2) w1,(ns1++ns2).length),kL (lv M) bs (ns1++ns2) w1)=((true,w1.length),w1))
  (t:(apW L M d r1 (zipM bs (ns1++ns2) w1),nx ⟨gsl a op++opr fo++xs.toList.flatMap opr,some d,some r1,ns1++ns2,zipM bs (ns1++ns2) w1⟩)=(some (L',M'),c'))
  (hc:Cal P f as M0 r0 m1) (g:G P E N m o c' L' M' k Q):G P E N m o c L M k Q:=by
 simp only [Prod.mk.injEq] at h h2 t hx hy
 obtain ⟨a1,a2⟩:=znn h2.1
 obtain ⟨b1,b2⟩:=zno h2.2.1
 obtain ⟨c1,c2⟩:=zrA hx.1
 obtain ⟨d1,d2⟩:=zno hx.2
 have s:Snd P a op N (mkS L M) _:=cl (s:=mkS L M) (fo:=fo) (xs:=xs) (tys:=tys) (first:=first) (caps:=caps) (vs:=vs) hc ns1 ns2 bs (by
   simp only [mkS] at *
   rw [h0,h.1,h.2.1,h.2.2.1,h.2.2.2.1,h2.2.2.1]) (by rw [← a2]; exact ha.h _ a1)
  (znm (hm.h _ b1) h2.2.2.2.1 b2.symm) (zrz h2.2.2.2.2) (hw.h _ d1) (hr.h _ c1) (by rw [d2]; exact zjV hy.1.1 hy.2) (by rw [d2]; exact hy.1.2)
 rw [h.2.2.2.2,c2,d2] at s
 exact G.sT hp s (zxB t.1 _ _) t.2 g
theorem G.c1 {α:Type} {q:Option α} {f:Nat} {as:List AV} {M0:List VS} {R':α→AV} {M1:α→List VS} {bs:List Bool} {ns1 ns2:List Nat} {r':α→AV} {W:α→List VS}
  {F:α→Option R} {a:Array Oper} {op:Oper} {nx:Ev→Ctl} {fo:Operand} {xs:Array Operand} {tys:Array TypeId} {first caps vs:List AV} {d:Nat} {L':α→LG} {M':α→LV} {c':α→Ctl} (hp:c.pop=some (a,op,nx))
  (h0:op.op = .call ⟨.value fo,xs,tys⟩) (ho:o=q.bind F) [hq:CC q P f as M0 R' M1] [ha:FwL as] [hm:QG M0] [hr:∀ x,Fw (R' x)] [hw:∀ x,QG (M1 x)] [hk:∀ x,KpL M0 (M1 x) bs]
  (h:(dlt op N,wnt a op (lk L),opd (lk L) fo,ZP (lk L) xs.toList,op.dst)=(true,some true,some (.fn f first caps),some vs,some d))
  (hn:nmO as (first++vs++caps) M0 bs M=some (ns1,ns2))
  (h2:(fL2 (ns1++ns2) as,fL3 (ns1++ns2) M0,(decide (ns1++ns2).Nodup,M0.all onB,frB M ns2))=(some (first++vs++caps),some (ns1.map (lv M)),true,true,true))
  (hx:∀ x,(f2 (ns1++ns2) (R' x),fL3 (ns1++ns2) (M1 x))=(some (r' x),some (W x)))
  (hy:∀ x,((kB bs (ns1++ns2) (W x),(ns1++ns2).length),kL (lv M) bs (ns1++ns2) (W x))=((true,(W x).length),W x))
  (hs:∀ x,(apW L M d (r' x) (zipM bs (ns1++ns2) (W x)),nx ⟨gsl a op++opr fo++xs.toList.flatMap opr,some d,some (r' x),ns1++ns2,zipM bs (ns1++ns2) (W x)⟩)=(some (L' x,M' x),c' x))
  (g:∀ x,q=some x→G P E N m (F x) (c' x) (L' x) (M' x) k Q):G P E N m o c L M k Q:=by
 subst ho
 exact G.bind fun x e=>G.cx hp h0 ha hm (hr x) (hw x) h h2 (hx x) (hy x) (hs x) (hq.p x e) (g x e)
class KC {α:Type} (q:Option α) (P:outParam Program) (f:outParam Nat) (as:outParam (List AV)) (M0:outParam (List VS)) (R:outParam (α→AV)) (φ:outParam (α→Prop)):Prop where
 p:∀ r,q=some r→φ r→Cal P f as M0 (R r) M0
def fls:List VS→List Bool
 | []=>[]
 | _ :: r=>false :: fls r
theorem G.kc {α:Type} {q:Option α} {f:Nat} {as:List AV} {M0:List VS} {R':α→AV} {φ:α→Prop} {ns1 ns2:List Nat} {r':α→AV} {W:α→List VS}
  {F F':α→Option R} {inst:∀ x,Decidable (φ x)} {a:Array Oper} {op:Oper} {nx:Ev→Ctl} {fo:Operand} {xs:Array Operand} {tys:Array TypeId} {first caps vs:List AV} {d:Nat} {L':α→LG} {M':α→LV} {c':α→Ctl} (hp:c.pop=some (a,op,nx))
  (h0:op.op = .call ⟨.value fo,xs,tys⟩) (ho:o=q.bind F) [hq:KC q P f as M0 R' φ] [ha:FwL as] [hm:QG M0] [hr:∀ x,Fw (R' x)]
  (hF:∀ x,F x = @_root_.ite _ (φ x) (inst x) (F' x) none)
  (h:(dlt op N,wnt a op (lk L),opd (lk L) fo,ZP (lk L) xs.toList,op.dst)=(true,some true,some (.fn f first caps),some vs,some d))
  (hn:nmO as (first++vs++caps) M0 (fls M0) M=some (ns1,ns2))
  (h2:(fL2 (ns1++ns2) as,fL3 (ns1++ns2) M0,(decide (ns1++ns2).Nodup,M0.all onB,frB M ns2))=(some (first++vs++caps),some (ns1.map (lv M)),true,true,true))
  (hx:∀ x,(f2 (ns1++ns2) (R' x),fL3 (ns1++ns2) M0)=(some (r' x),some (W x)))
  (hy:∀ x,((kB (fls M0) (ns1++ns2) (W x),(ns1++ns2).length),kL (lv M) (fls M0) (ns1++ns2) (W x))=((true,(W x).length),W x))
  (hs:∀ x,(apW L M d (r' x) (zipM (fls M0) (ns1++ns2) (W x)),nx ⟨gsl a op++opr fo++xs.toList.flatMap opr,some d,some (r' x),ns1++ns2,zipM (fls M0) (ns1++ns2) (W x)⟩)=(some (L' x,M' x),c' x))
  (g:∀ x,q=some x→φ x→G P E N m (F' x) (c' x) (L' x) (M' x) k Q):G P E N m o c L M k Q:=by
 subst ho
 refine G.bind fun x e=>?_
 rw [hF x]
 exact @G.guard P E N m R (F' x) c L M k Q (φ x) (inst x) fun hφ=>G.cx hp h0 ha hm (hr x) hm h h2 (hx x) (hy x) (hs x) (hq.p x e hφ) (g x e hφ)
class C2 {α β:Type} (q:Option (α ⊕ β)) (P:outParam Program) (f:outParam Nat) (as:outParam (List AV)) (M0:outParam (List VS)) (R1:outParam (α→AV)) (R2:outParam (β→AV)) (M1:outParam (α→List VS)) (M2:outParam (β→List VS)):Prop where
 p1:∀ r,q=some (.inl r)→Cal P f as M0 (R1 r) (M1 r)
 p2:∀ r,q=some (.inr r)→Cal P f as M0 (R2 r) (M2 r)
theorem G.c2 {α β:Type} {q:Option (α ⊕ β)} {f:Nat} {as:List AV} {M0:List VS} {R1:α→AV} {R2:β→AV} {M1:α→List VS} {M2:β→List VS} {bs es:List Bool} {ns1 ns2:List Nat} {r1:α→AV} {r2:β→AV} {W1:α→List VS} {W2:β→List VS}
  {F:α ⊕ β→Option R} {a:Array Oper} {op:Oper} {nx:Ev→Ctl} {fo:Operand} {xs:Array Operand} {tys:Array TypeId} {first caps vs:List AV} {d:Nat} {L1:α→LG} {L2:β→LG} {N1:α→LV} {N2:β→LV} {c1:α→Ctl} {c2:β→Ctl} (hp:c.pop=some (a,op,nx))
  (h0:op.op = .call ⟨.value fo,xs,tys⟩) (ho:o=q.bind F) [hq:C2 q P f as M0 R1 R2 M1 M2] [ha:FwL as] [hm:QG M0] [hr1:∀ x,Fw (R1 x)] [hr2:∀ x,Fw (R2 x)] [hw1:∀ x,QG (M1 x)] [hw2:∀ x,QG (M2 x)] [hk:∀ x,KpL M0 (M1 x) bs] [hk2:∀ x,KpL M0 (M2 x) es]
  (h:(dlt op N,wnt a op (lk L),opd (lk L) fo,ZP (lk L) xs.toList,op.dst)=(true,some true,some (.fn f first caps),some vs,some d))
  (hn:nmO as (first++vs++caps) M0 bs M=some (ns1,ns2))
  (h2:(fL2 (ns1++ns2) as,fL3 (ns1++ns2) M0,(decide (ns1++ns2).Nodup,M0.all onB,frB M ns2))=(some (first++vs++caps),some (ns1.map (lv M)),true,true,true))
  (hx1:∀ x,(f2 (ns1++ns2) (R1 x),fL3 (ns1++ns2) (M1 x))=(some (r1 x),some (W1 x))) (hx2:∀ x,(f2 (ns1++ns2) (R2 x),fL3 (ns1++ns2) (M2 x))=(some (r2 x),some (W2 x)))
  (hy1:∀ x,((kB bs (ns1++ns2) (W1 x),(ns1++ns2).length),kL (lv M) bs (ns1++ns2) (W1 x))=((true,(W1 x).length),W1 x)) (hy2:∀ x,((kB es (ns1++ns2) (W2 x),(ns1++ns2).length),kL (lv M) es (ns1++ns2) (W2 x))=((true,(W2 x).length),W2 x))
  (t1:∀ x,(apW L M d (r1 x) (zipM bs (ns1++ns2) (W1 x)),nx ⟨gsl a op++opr fo++xs.toList.flatMap opr,some d,some (r1 x),ns1++ns2,zipM bs (ns1++ns2) (W1 x)⟩)=(some (L1 x,N1 x),c1 x)) (t2:∀ x,(apW L M d (r2 x) (zipM es (ns1++ns2) (W2 x)),nx ⟨gsl a op++opr fo++xs.toList.flatMap opr,some d,some (r2 x),ns1++ns2,zipM es (ns1++ns2) (W2 x)⟩)=(some (L2 x,N2 x),c2 x))
  (g1:∀ x,q=some (.inl x)→G P E N m (F (.inl x)) (c1 x) (L1 x) (N1 x) k Q) (g2:∀ x,q=some (.inr x)→G P E N m (F (.inr x)) (c2 x) (L2 x) (N2 x) k Q):G P E N m o c L M k Q:=by
 subst ho
 refine G.bind fun x e=>?_
 cases x with
 | inl x=>exact G.cx hp h0 ha hm (hr1 x) (hw1 x) h h2 (hx1 x) (hy1 x) (t1 x) (hq.p1 x e) (g1 x e)
 | inr x=>exact G.cx hp h0 ha hm (hr2 x) (hw2 x) h h2 (hx2 x) (hy2 x) (t2 x) (hq.p2 x e) (g2 x e)
class JN (o:Option R) (P:outParam Program) (N m:outParam Nat) (L:outParam LG) (M:outParam LV) (k:outParam (List (Fr R))) (Q:outParam (Ent→R→Exit→Act→World→Prop)):Prop where
 h:∀ E,G P E N m o (.x .normal) L M k (Q E)
theorem G.jn1 {L':LG} {M':LV} {l:List (Nat × Nat)} {Q':Ent→R→Exit→Act→World→Prop} [h:JN o P N m L' M' k Q'] (e:(prO m L M L' M',(jB m l L' M',(L'.map fun p=>lk L p.1),mE (lv M) l M'))=(some l,(true,(L'.map fun p=>p.2.map (bk l)),mB l l M'))) [RL L'] [RM M'] (hQ:Q' E=Q):G P E N m o (.x .normal) L M k Q:=by
 subst hQ
 simp only [Prod.mk.injEq] at e
 exact fun hE=>G.weak (h.h E) (jm l e.2.1 e.2.2.1 e.2.2.2 hE) rfl hE
class LP (o:Option R) (X:outParam Type) (F:outParam (Nat→X→Option R)) (n:outParam Nat) (x:outParam X) (st:outParam (X→LG × LV)):Prop where
 h:o=F n x
 z:∀ x,F 0 x=none
theorem G.lp1 {X:Type} {body:Code} {F:Nat→X→Option R} {n:Nat} {x:X} {st:X→LG × LV} {L':LG} {M':LV} {l:List (Nat × Nat)} {L2:X→LG} {M2:X→LV} (hc:c = .c (.loop body)) [h:LP o X F n x st] (e:((n,st x),prO m L M L' M',(jB m l L' M',(L'.map fun p=>lk L p.1),mE (lv M) l M'))=((Abs.fuel,L',M'),some l,(true,(L'.map fun p=>p.2.map (bk l)),mB l l M'))) [RL L'] [RM M'] (hs:∀ x,st x=(L2 x,M2 x))
  (hb:∀ n x,G P E N m (F (n+1) x) (.c body) (L2 x) (M2 x) (.l X F st (n+1) :: k) Q):G P E N m o c L M k Q:=by
 subst hc
 simp only [Prod.mk.injEq] at e
 rw [h.h,e.1.1]
 exact G.lo F st x (by rw [e.1.2]) (jm l e.2.2.1 e.2.2.2.1 e.2.2.2.2) (fun n x=>by rw [hs x]; exact hb n x) h.z
theorem G.ag1 {X:Type} {F:Nat→X→Option R} {st:X→LG × LV} {n:Nat} {x:X} {L':LG} {M':LV} {l:List (Nat × Nat)} [h:LP o X F n x st] (e:(st x,prO m L M L' M',(jB m l L' M',(L'.map fun p=>lk L p.1),mE (lv M) l M'))=((L',M'),some l,(true,(L'.map fun p=>p.2.map (bk l)),mB l l M'))) [RL L'] [RM M']:G P E N m o (.x .normal) L M (.l X F st (n+1) :: k) Q:=by
 simp only [Prod.mk.injEq] at e
 rw [h.h]
 exact G.ao x (by rw [e.1]) (jm l e.2.2.1 e.2.2.2.1 e.2.2.2.2)
theorem G.cd1 {cn:Operand} {x y:Code} {b:Bool} {p:Prop} {inst:Decidable p} {ot oe:Option R} (hk:c = .c (.cond cn x y)) (hc:opd (lk L) cn=some (.bool b)) (ho:o = @_root_.ite _ p inst ot oe) (hp:b=true↔p) (ht:b=true→p→G P E N m ot (.c x) L M k Q) (hf:b=false→¬p→G P E N m oe (.c y) L M k Q) :
  G P E N m o c L M k Q:=by
 subst hk ho
 exact G.cd hc ht hf hp
theorem G.ix1 [TB P tb] {α:Type} {K:Kd α} {a:Array Oper} {op:Oper} {nx:Ev→Ctl} {T e:TypeId} {x y:Operand} {l:List α} {d:Nat} {q:IntKind} {i:Int} {o1:Option R} (hp:c.pop=some (a,op,nx)) (h0:op.op = .indexAddr T x y) (ho:o=if 0≤i∧i<(l.length:Int) then o1 else none)
  (h:(dlt op N,wnt a op (lk L),opd (lk L) x,opd (lk L) y,op.dst,tD tb T,tN tb e)=(true,some true,some (slK K l),some (.int q i),some d,some (.slice e),some K.sz))
  (g:G P E N m o1 (nx ⟨gsl a op++[x,y].flatMap opr,some d,some (.iptr (K.enc (l.getD i.toNat K.z))),[],[]⟩) ((d,some (.iptr (K.enc (l.getD i.toNat K.z)))) :: L) M k Q):G P E N m o c L M k Q:=by
 subst ho
 simp only [Prod.mk.injEq] at h
 exact G.ix hp (by rw [h0,h.1,h.2.1,h.2.2.1,h.2.2.2.1,h.2.2.2.2.1,h.2.2.2.2.2.1,h.2.2.2.2.2.2]) g
theorem G.ln1 [TB P tb] {α:Type} {K:Kd α} {a:Array Oper} {op:Oper} {nx:Ev→Ctl} {T e:TypeId} {x:Operand} {l:List α} {d:Nat} (hp:c.pop=some (a,op,nx)) (h0:op.op = .call ⟨.builtin .len,#[x],#[T]⟩)
  (h:(dlt op N,wnt a op (lk L),opd (lk L) x,op.dst,tD tb T)=(true,some true,some (slK K l),some d,some (.slice e)))
  (g:G P E N m o (nx ⟨gsl a op++[x].flatMap opr,some d,some (.int .i64 l.length),[],[]⟩) ((d,some (.int .i64 l.length)) :: L) M k Q):G P E N m o c L M k Q:=by
 simp only [Prod.mk.injEq] at h
 exact G.ln hp (by rw [h0,h.1,h.2.1,h.2.2.1,h.2.2.2.1,h.2.2.2.2]) g
theorem G.fi1 [TB P tb] {r:R} {fn:Func} {res:R→AV} {V1:R→List VS} {e:Exit} {vs:List AV} {rs:List ResultVar} (hc:c = .x e) (hk:k=[]) (hQ:Q=fin P fn E res fun r=>ld (V1 r)) (hr:fn.results=⟨rs⟩) (ho:o=some r) (h:((isEnd e,zdw M 0 (V1 r),rvL tb L M rs,Nat.ble rs.length 3),mkT vs)=((true,V1 r,some vs,true),res r)):G P E N m o c L M k Q:=by
 subst hc hk hQ ho
 exact G.fi hr h
class AL (v w:AV):Prop where
 h:AVle v w
class ALL (v w:List AV):Prop where
 h:LeL v w
instance {v:AV} : AL v v:=⟨AVle.refl v⟩
instance {α:Type} {K:Kd α} : AL .nilsl (slK K []):=⟨AVle.nil⟩
instance:ALL [] []:=⟨.nil⟩
instance {v w:AV} {l r:List AV} [h:AL v w] [k:ALL l r]:ALL (v :: l) (w :: r):=⟨.cons h.h k.h⟩
instance (priority:=low) {l r:List AV} [h:ALL l r]:AL (.agg l) (.agg r):=⟨.agg h.h⟩
instance (priority:=low) {l r:List AV} [h:ALL l r]:AL (.tup l) (.tup r):=⟨.tup h.h⟩
def mkF:List AV→Option AV
 | []=>some (.tup [])
 | [v]=>some v
 | a :: b :: l=>some (.tup (a :: b :: l))
theorem zxC {l:List AV} {v:AV} (h:mkF l=some v):mkT l=v:=by
 unfold mkF at h
 split at h<;>cases h<;>rfl
theorem G.fj1 [TB P tb] {r:R} {fn:Func} {res:R→AV} {V1:R→List VS} {e:Exit} {vs:List AV} {rs:List ResultVar} {v:AV} (hc:c = .x e) (hk:k=[]) (hQ:Q=fin P fn E res fun r=>ld (V1 r)) (hr:fn.results=⟨rs⟩) (ho:o=some r) (h:(isEnd e,zdw M 0 (V1 r),rvL tb L M rs,Nat.ble rs.length 3)=(true,V1 r,some vs,true)) (hv:mkF vs=some v) [al:AL v (res r)]:G P E N m o c L M k Q:=by
 subst hc hk hQ ho
 exact G.fj hr h (by rw [zxC hv]; exact al.h)
theorem G.gd1 {a:Array Oper} {op:Oper} {nx:Ev→Ctl} {t:Nat} {b:Bool} {p:Prop} {inst:Decidable p} {o1 o2:Option R} (hp:c.pop=some (a,op,nx)) (hg:gsl a op=[t]) (h:lk L t=some (.bool b)) (ho:o = @_root_.ite _ p inst o1 o2) (hb:b=true↔p)
  (h1:b=true→p→G P E N m o1 c ((t,some (.bool true)) :: L) M k Q) (h2:b=false→¬p→G P E N m o2 c ((t,some (.bool false)) :: L) M k Q):G P E N m o c L M k Q:=by
 subst ho
 exact G.gd t h (fun q=>h1 (hb.2 q) q) (fun q=>h2 (by
  cases b with
  | false=>rfl
  | true=>exact absurd (hb.1 rfl) q) q) hb
theorem G.bx1 {a:Array Oper} {op:Oper} {nx:Ev→Ctl} {T:TypeId} {y:Operand} {f:FuncId} {cs:List AV} {d:Nat} (hp:c.pop=some (a,op,nx)) (h0:op.op = .box T y) (hv:opd (lk L) y=some (.fn f [] [])) (h:(dlt op N,wnt a op (lk L),cellsO (.fn f [] []),op.dst)=(true,some true,some cs,some d))
  (g:G P E N m o (nx ⟨gsl a op++[y].flatMap opr,some d,some (.iptr cs),[],[]⟩) ((d,some (.iptr cs)) :: L) M k Q):G P E N m o c L M k Q:=by
 simp only [Prod.mk.injEq] at h
 have hs:Snd P a op N (mkS L M) _:=bxi (T:=T) (y:=y) (v:=.fn f [] []) (cs:=cs) (by rw [h0,h.1,h.2.1,hv,h.2.2.1])
 rw [h.2.2.2] at hs
 exact G.st hp hs rfl g
theorem G.gk1 {a:Array Oper} {op:Oper} {nx:Ev→Ctl} {t:Nat} {b d:Bool} (hp:c.pop=some (a,op,nx)) (hg:gsl a op=[t]) (h:lk L t=some (.bool b)) (hb:b=d) (g:G P E N m o c ((t,some (.bool d)) :: L) M k Q):G P E N m o c L M k Q:=G.kn t d h hb g
theorem G.ck1 {t:Nat} {x y:Code} {b d:Bool} (hk:c = .c (.cond (.tmp t) x y)) (h:lk L t=some (.bool b)) (hb:b=d) (g:G P E N m o c ((t,some (.bool d)) :: L) M k Q):G P E N m o c L M k Q:=G.kn t d h hb g
theorem G.lf {cn:Operand} {x y:Code} {inst:Decidable (false=true)} {ot oe:Option R} (hk:c = .c (.cond cn x y)) (hc:opd (lk L) cn=some (.bool false)) (ho:o = @_root_.ite _ (false=true) inst ot oe) (g:G P E N m oe (.c y) L M k Q):G P E N m o c L M k Q:=by
 subst hk ho
 rw [we wb]
 exact fun hE=>T.cond_f hc (g hE)
theorem G.lt {cn:Operand} {x y:Code} {inst:Decidable (true=true)} {ot oe:Option R} (hk:c = .c (.cond cn x y)) (hc:opd (lk L) cn=some (.bool true)) (ho:o = @_root_.ite _ (true=true) inst ot oe) (g:G P E N m ot (.c x) L M k Q):G P E N m o c L M k Q:=by
 subst hk ho
 rw [wc rfl]
 exact fun hE=>T.cond_t hc (g hE)
class UN (o:Option R) (o':outParam (Option R)):Prop where
 h:o=o'
theorem G.un {body:Code} (hc:c = .c (.loop body)) [h:UN o o'] (g:G P E N m o' c L M k Q):G P E N m o c L M k Q:=by
 rw [h.h]; exact g
theorem G.ag3 {X:Type} {F:Nat→X→Option R} {st:X→LG × LV} {n:Nat} {L':LG} {M':LV} {l:List (Nat × Nat)} (x:X) (h:o=F n x) (e:(st x,prO m L M L' M',(jB m l L' M',(L'.map fun p=>lk L p.1),mE (lv M) l M'))=((L',M'),some l,(true,(L'.map fun p=>p.2.map (bk l)),mB l l M'))) [RL L'] [RM M']:G P E N m o (.x .normal) L M (.l X F st (n+1) :: k) Q:=by
 simp only [Prod.mk.injEq] at e
 rw [h]
 exact G.ao x (by rw [e.1]) (jm l e.2.2.1 e.2.2.2.1 e.2.2.2.2)
theorem G.gq {a:Array Oper} {op:Oper} {nx:Ev→Ctl} {c':Ctl} {e:Ev} {L':LG} {M':LV} {p:Prop} {inst:Decidable p} {o1:Option R} (hp:c.pop=some (a,op,nx)) (hs:p→Snd P a op N (mkS L M) e) (ho:o = @_root_.ite _ p inst o1 none) (ha:(apS L M e,nx e)=(some (L',M'),c')) (g:G P E N m o1 c' L' M' k Q):G P E N m o c L M k Q:=by
 subst ho
 exact G.guard fun q=>G.st hp (hs q) ha g
theorem G.sl1 [TB P tb] {α:Type} {K:Kd α} {a:Array Oper} {op:Oper} {nx:Ev→Ctl} {T e:TypeId} {x:Operand} {low high:Option Operand} {l l':List α} {d:Nat} {lo hi:Int} {p:Prop} {inst:Decidable p} {o1:Option R} (hp:c.pop=some (a,op,nx)) (h0:op.op = .slice T x low high none)
  (h:(dlt op N,wnt a op (lk L),opd (lk L) x,QF (lk L) low 0,QF (lk L) high (l.length:Int),op.dst,tD tb T,tN tb e)=(true,some true,some (slK K l),some lo,some hi,some d,some (.slice e),some K.sz))
  (ho:o = @_root_.ite _ p inst o1 none) (hq:p→0≤lo∧lo≤hi∧hi≤l.length) (hl:(l.take hi.toNat).drop lo.toNat=l')
  (g:G P E N m o1 (nx ⟨gsl a op++(x :: (low.toList++high.toList)).flatMap opr,some d,some (slK K l'),[],[]⟩) ((d,some (slK K l')) :: L) M k Q):G P E N m o c L M k Q:=by
 subst ho
 simp only [Prod.mk.injEq] at h
 refine G.guard fun q=>?_
 have hs:=zci (P:=P) (s:=mkS L M) K T e x low high l lo hi h0 (zdx h.2.2.2.2.2.2.1) (zg8 h.2.2.2.2.2.2.2) h.1 h.2.1 h.2.2.1 h.2.2.2.1 h.2.2.2.2.1 (hq q)
 rw [h.2.2.2.2.2.1,hl] at hs
 exact G.st hp hs rfl g
theorem G.sl2 [TB P tb] {a:Array Oper} {op:Oper} {nx:Ev→Ctl} {T e sz:TypeId} {x:Operand} {low high:Option Operand} {els els':List (List AV)} {d:Nat} {lo hi:Int} {p:Prop} {inst:Decidable p} {o1:Option R} (hp:c.pop=some (a,op,nx)) (h0:op.op = .slice T x low high none)
  (h:(dlt op N,wnt a op (lk L),opd (lk L) x,QF (lk L) low 0,QF (lk L) high (els.length:Int),op.dst,tD tb T,tN tb e,els.all fun l=>Nat.beq l.length sz)=(true,some true,some (.sl els),some lo,some hi,some d,some (.slice e),some sz,true))
  (ho:o = @_root_.ite _ p inst o1 none) (hq:p→0≤lo∧lo≤hi∧hi≤els.length) (hl:(els.take hi.toNat).drop lo.toNat=els')
  (g:G P E N m o1 (nx ⟨gsl a op++(x :: (low.toList++high.toList)).flatMap opr,some d,some (.sl els'),[],[]⟩) ((d,some (.sl els')) :: L) M k Q):G P E N m o c L M k Q:=by
 subst ho
 simp only [Prod.mk.injEq] at h
 refine G.guard fun q=>?_
 have hs:=zqY (P:=P) (N:=N) (s:=mkS L M) T e sz x low high els lo hi h0 (zdx h.2.2.2.2.2.2.1) (zg8 h.2.2.2.2.2.2.2.1) h.1 h.2.1 h.2.2.1 h.2.2.2.1 h.2.2.2.2.1 (fun l hl=>Nat.eq_of_beq_eq_true (List.all_eq_true.1 h.2.2.2.2.2.2.2.2 l hl)) (hq q).1 (hq q).2.1 (hq q).2.2
 rw [h.2.2.2.2.2.1,hl] at hs
 exact G.st hp hs rfl g
theorem G.no1 (ho:o=none):G P E N m o c L M k Q:=by
 subst ho
 exact G.no
theorem td0 {α:Type} {l:List α} {n:Nat} : (l.take n).drop (0:Int).toNat=l.take n:=wb
theorem td1 {α:Type} {l:List α} : (l.take (l.length:Int).toNat).drop (0:Int).toNat=l:=wb
def chk (sz:Nat):Nat→List AV→Option (List (List AV))
 | 0,[]=>some []
 | 0,_ :: _=>none
 | n+1,l=>obd (takeO l sz) fun a=>obd (chk sz n (l.drop sz)) fun t=>some (a :: t)
theorem zrC {sz:Nat} : ∀ {n:Nat} {l:List AV} {els:List (List AV)},chk sz n l=some els→els.flatten=l∧Even sz els∧els.length=n
 | 0,[],els,h=>by cases h; exact ⟨rfl,(fun e he=>by cases he),rfl⟩
 | 0,_ :: _,els,h=>by cases h
 | n+1,l,els,h=>by
  obtain ⟨a,h1,h2⟩:=zt h
  obtain ⟨t,h3,h4⟩:=zt h2
  cases h4
  obtain ⟨q1,q2⟩:=zjR h1
  obtain ⟨r1,r2,r3⟩:=zrC h3
  refine ⟨by rw [List.flatten_cons,r1,q1,List.take_append_drop],fun e he=>?_,by rw [List.length_cons,r3]⟩
  rcases List.mem_cons.1 he with k | k
  ·rw [k,q1,List.length_take]; omega
  ·exact r2 e k
theorem G.bs1 [ht:TB P tb] {a:Array Oper} {op:Oper} {nx:Ev→Ctl} {T e len d sz:Nat} {parts:Array (Nat × Operand)} {cs:List AV} {els:List (List AV)} (hp:c.pop=some (a,op,nx)) (h0:op.op = .buildSlice T len parts)
  (h:(dlt op N,wnt a op (lk L),tD tb T,tN tb e,op.dst)=(true,some true,some (.slice e),some sz,some d))
  (hf:zdt (lk L) (fun i=>some (i*sz,sz)) (Z8 (tZ tb e) (len*sz)) parts.toList=some cs) (hk:(Nat.ble (len*sz) 16777216 && (Nat.ble 1 len && (Nat.ble 1 sz && Nat.beq (tZ tb e).length sz)))=true) (hl:chk sz len cs=some els)
  (g:G P E N m o (nx ⟨gsl a op++(parts.toList.map (·.2)).flatMap opr,some d,some (.sl els),[],[]⟩) ((d,some (.sl els)) :: L) M k Q):G P E N m o c L M k Q:=by
 simp only [Prod.mk.injEq,Bool.and_eq_true] at h hk
 obtain ⟨h2,h3,h4,h5,h6⟩:=h
 obtain ⟨k1,k2,k3,k4⟩:=hk
 obtain ⟨pa,p1,p2⟩:=zjT hf
 obtain ⟨q1,q2,q3⟩:=zrC hl
 have hz:qR P e (tZ tb e):=zry fun h0=>by
  rw [h0] at k4
  have:=Nat.eq_of_beq_eq_true k4
  have:=Nat.le_of_ble_eq_true k3
  simp at *; omega
 have hs:=zqW (P:=P) (N:=N) (s:=mkS L M) T e len sz parts (tZ tb e) pa els h0 (zdx h4) hz (zg8 h5) (Nat.eq_of_beq_eq_true k4) h2 h3 (Nat.le_of_ble_eq_true k1) (Nat.le_of_ble_eq_true k2) (Nat.le_of_ble_eq_true k3) p1 (by rw [q1]; exact p2) q2 q3
 rw [h6] at hs
 exact G.st hp hs rfl g
def lnN:AV→Option Nat
 | .sl els=>some els.length
 | .nilsl=>some 0
 | _=>none
theorem G.ln2 [TB P tb] {a:Array Oper} {op:Oper} {nx:Ev→Ctl} {T e n:Nat} {x:Operand} {v:AV} {d:Nat} (hp:c.pop=some (a,op,nx)) (h0:op.op = .call ⟨.builtin .len,#[x],#[T]⟩)
  (h:(dlt op N,wnt a op (lk L),opd (lk L) x,op.dst,tD tb T,lnN v)=(true,some true,some v,some d,some (.slice e),some n))
  (g:G P E N m o (nx ⟨gsl a op++[x].flatMap opr,some d,some (.int .i64 n),[],[]⟩) ((d,some (.int .i64 n)) :: L) M k Q):G P E N m o c L M k Q:=by
 simp only [Prod.mk.injEq] at h
 have hs:=zeK (P:=P) (N:=N) (s:=mkS L M) T e x v n h0 (zdx h.2.2.2.2.1) h.1 h.2.1 h.2.2.1 (by
  have:=h.2.2.2.2.2
  cases v<;>first | (cases this; rfl) | cases this)
 rw [h.2.2.2.1] at hs
 exact G.st hp hs rfl g
theorem wk {p:Prop} (h:p:=by
 repeat' first
  | refine G.fi1 rfl rfl rfl rfl rfl rfl
  | refine G.fj1 rfl rfl rfl rfl rfl rfl rfl
  | refine G.jn1 (by exact rfl) (by exact rfl)
  | refine G.bx1 rfl rfl rfl rfl ?_
  | refine G.lf rfl rfl rfl ?_
  | refine G.lt rfl rfl rfl ?_
  | refine G.gm rfl ?_
  | refine G.p1 rfl rfl rfl rfl fun _ _=>?_
  | refine G.kc rfl rfl rfl (by exact fun _=>rfl) rfl (by exact rfl) (by exact rfl) (by exact fun _=>rfl) (by exact fun _=>rfl) (by exact fun _=>rfl) fun _ _ _=>?_
  | refine G.c1 rfl rfl rfl rfl (by exact rfl) (by exact rfl) (by exact fun _=>rfl) (by exact fun _=>rfl) (by exact fun _=>rfl) fun _ _=>?_
  | refine G.c2 rfl rfl rfl rfl (by exact rfl) (by exact rfl) (by exact fun _=>rfl) (by exact fun _=>rfl) (by exact fun _=>rfl) (by exact fun _=>rfl) (by exact fun _=>rfl) (by exact fun _=>rfl) (fun _ _=>?_) fun _ _=>?_
  | refine G.cd1 rfl rfl rfl (by first | exact zjL | exact zjM | exact zjJ | exact zjN | exact zjO | exact zjK | exact zjP | exact zjQ) (fun _ _=>?_) fun _ _=>?_
  | refine G.ln1 rfl rfl rfl ?_
  | refine G.ln2 rfl rfl rfl ?_
  | refine G.ix1 rfl rfl rfl rfl ?_
  | refine G.dn (by kernel_rfl) ?_
  | refine G.lp1 rfl (by exact rfl) (by exact fun _=>rfl) fun _ _=>?_
  | refine G.ag1 (by exact rfl)
  | refine G.un rfl ?_
  | refine G.ag3 _ (by (conv=>lhs; whnf); (try dsimp only); try exact rfl) (by exact rfl)
  | refine G.ag3 (_,_) (by (conv=>lhs; whnf); (try dsimp only); try exact rfl) (by exact rfl)
  | refine G.ag3 (_,_,_) (by (conv=>lhs; whnf); (try dsimp only); try exact rfl) (by exact rfl)
  | refine G.ag3 (_,_,_,_) (by (conv=>lhs; whnf); (try dsimp only); try exact rfl) (by exact rfl)
  | refine G.ag3 (_,_,_,_,_) (by (conv=>lhs; whnf); (try dsimp only); try exact rfl) (by exact rfl)
  | refine G.ag3 (_,_,_,_,_,_) (by (conv=>lhs; whnf); (try dsimp only); try exact rfl) (by exact rfl)
  | refine G.ag3 (_,_,_,_,_,_,_) (by (conv=>lhs; whnf); (try dsimp only); try exact rfl) (by exact rfl)
  | refine G.ag3 (_,_,_,_,_,_,_,_) (by (conv=>lhs; whnf); (try dsimp only); try exact rfl) (by exact rfl)
  | refine G.ag3 (_,_,_,_,_,_,_,_,_) (by (conv=>lhs; whnf); (try dsimp only); try exact rfl) (by exact rfl)
  | refine G.ag3 (_,_,_,_,_,_,_,_,_,_) (by (conv=>lhs; whnf); (try dsimp only); try exact rfl) (by exact rfl)
  | refine G.ag3 (_,_,_,_,_,_,_,_,_,_,_) (by (conv=>lhs; whnf); (try dsimp only); try exact rfl) (by exact rfl)
  | refine G.ag3 (_,_,_,_,_,_,_,_,_,_,_,_) (by (conv=>lhs; whnf); (try dsimp only); try exact rfl) (by exact rfl)
  | refine G.ag3 (_,_,_,_,_,_,_,_,_,_,_,_,_) (by (conv=>lhs; whnf); (try dsimp only); try exact rfl) (by exact rfl)
  | refine G.ag3 (_,_,_,_,_,_,_,_,_,_,_,_,_,_) (by (conv=>lhs; whnf); (try dsimp only); try exact rfl) (by exact rfl)
  | refine G.gd1 rfl rfl rfl rfl (by first | exact zjL | exact zjM | exact zjJ | exact zjN | exact zjO | exact zjK | exact zjP | exact zjQ) (fun _ _=>?_) fun _ _=>?_
  | refine G.gk1 rfl rfl rfl ‹_› ?_
  | refine G.ck1 rfl rfl ‹_› ?_
  | refine G.bs1 rfl rfl rfl rfl rfl rfl ?_
  | refine G.gq rfl (fun q=>zjv _ _ _ _ _ _ _ rfl rfl rfl rfl rfl q) rfl rfl ?_
  | refine G.gq rfl (fun q=>zjw _ _ _ _ _ _ _ rfl rfl rfl rfl rfl q) rfl rfl ?_
  | refine G.gq rfl (fun q=>zjt _ _ _ _ _ _ _ _ rfl rfl rfl rfl rfl q) rfl rfl ?_
  | refine G.gq rfl (fun q=>zju _ _ _ _ _ _ _ _ rfl rfl rfl rfl rfl q) rfl rfl ?_
  | refine G.sl1 rfl rfl rfl rfl (fun q=>q) td1 ?_
  | refine G.sl1 rfl rfl rfl rfl (fun q=>q) td0 ?_
  | refine G.sl1 rfl rfl rfl rfl (fun q=>q) rfl ?_
  | refine G.sl2 rfl rfl rfl rfl (fun q=>q) rfl ?_
  | refine G.no1 rfl
  | fail):p:=h
end
end Go.Abs
