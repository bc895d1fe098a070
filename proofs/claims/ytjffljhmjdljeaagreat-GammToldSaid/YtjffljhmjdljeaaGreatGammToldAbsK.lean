/- Control: sequences, tests, loops, joins; a function's contract out of its body. -/
import Derived.Test.YtjffljhmjdljeaaGreatGammToldAbsJ
import Derived.RangeFuncLeaves
import Derived.RangeFuncRecord
import Derived.LoopIn
set_option linter.unusedVariables false
set_option linter.unusedSimpArgs false
namespace Go.Abs
def AVle (v v':AV):Prop:=∀ w A I x,Rep w A I v x→Rep w A I v' x
theorem AVle.refl (v:AV):AVle v v:=fun _ _ _ _ h=>h
theorem AVle.nil:AVle .nilsl (.sl []):=fun _ _ _ _ h=>by cases h; exact .sl0 _ _
inductive LeL:List AV→List AV→Prop
 | nil:LeL [] []
 | cons {a b:AV} {l r:List AV} (h:AVle a b) (t:LeL l r):LeL (a :: l) (b :: r)
theorem LeL.refl:∀ l:List AV,LeL l l
 | []=>.nil
 | a :: l=>.cons (.refl a) (LeL.refl l)
theorem LeL.spec {l r:List AV} (h:LeL l r):l.length=r.length∧∀ i,AVle (l.getD i .nilptr) (r.getD i .nilptr):=by
 induction h with
 | nil=>exact ⟨rfl,fun i=>.refl _⟩
 | cons h t ih=>
  refine ⟨by simp [ih.1],fun i=>?_⟩
  cases i with
  | zero=>simpa using h
  | succ i=>simpa using ih.2 i
theorem AVle.agg {l r:List AV} (h:LeL l r):AVle (.agg l) (.agg r):=fun w A I x hx=>by
 obtain ⟨h1,h2⟩:=h.spec
 cases hx with
 | agg _ vs hs hr=>exact .agg r vs wa fun i hi=>h2 i _ _ _ _ (hr i wa)
theorem AVle.tup {l r:List AV} (h:LeL l r):AVle (.tup l) (.tup r):=fun w A I x hx=>by
 obtain ⟨h1,h2⟩:=h.spec
 cases hx with
 | tup _ vs hs hr=>exact .tup r vs wa fun i hi=>h2 i _ _ _ _ (hr i wa)
inductive VSle:VS→VS→Prop
 | refl (v:VS):VSle v v
 | dead (v:VS):VSle v .dead
 | live (T:TypeId) {l r:List AV} (h:LeL l r):VSle (.live T l) (.live T r)
theorem VSle.on {v v':VS} (h:VSle v v') (ho:v'.on):v.on:=by cases h<;>first | exact ho | exact ho.elim
theorem VSle.holds {v v':VS} (h:VSle v v') {E:Ent} {w:World} {A:Nat→Option Nat} {I:Nat→Prop} {x:Nat} (k:Holds E w A I x v):Holds E w A I x v':=by
 cases h with
 | refl=>exact k
 | dead=>trivial
 | live T h=>
  obtain ⟨h1,h2⟩:=h.spec
  obtain ⟨b,arr,k1,k2,k3,k4,k5,k6⟩:=k
  exact ⟨b,arr,k1,k2,wa,fun i hi=>h2 i _ _ _ _ (k4 i wa),k5,k6⟩
def Zy (l:List (Nat × Nat)):Nat→Option Nat:=fun x=>(l.find? fun p=>p.1 == x).map (·.2)
def zdr (l:List (Nat × Nat)):Nat→Option Nat:=fun y=>(l.find? fun p=>p.2 == y).map (·.1)
theorem zwN {l:List (Nat × Nat)} {x y:Nat} (h:Zy l x=some y):(x,y) ∈ l:=by
 unfold Zy at h
 obtain ⟨p,hp,rfl⟩:=Option.map_eq_some_iff.1 h
 have h1:=List.find?_some hp
 have h2:=List.mem_of_find?_eq_some hp
 simp only [beq_iff_eq] at h1
 subst h1; exact h2
theorem zwO {l:List (Nat × Nat)} (hn:(l.map (·.2)).Nodup) {x y:Nat} (h:(x,y) ∈ l):zdr l y=some x:=by
 unfold zdr
 induction l with
 | nil=>cases h
 | cons p l ih=>
  simp only [List.map_cons,List.nodup_cons] at hn
  simp only [List.find?_cons]
  rcases List.mem_cons.1 h with e | e
  ·subst e; simp
  ·have:(p.2 == y)=false:=by
    simp only [beq_eq_false_iff_ne,ne_eq]
    intro e2; subst e2
    exact hn.1 (List.mem_map.2 ⟨(x,p.2),e,rfl⟩)
   simp only [this]; exact ih hn.2 e
theorem zq3 {l:List (Nat × Nat)} {x y:Nat} (h:zdr l y=some x):(x,y) ∈ l:=by
 unfold zdr at h
 obtain ⟨p,hp,rfl⟩:=Option.map_eq_some_iff.1 h
 have h1:=List.find?_some hp
 have h2:=List.mem_of_find?_eq_some hp
 simp only [beq_iff_eq] at h1
 subst h1; exact h2
theorem zwP {l:List (Nat × Nat)} (hn:(l.map (·.1)).Nodup) {x y y':Nat} (h:(x,y) ∈ l) (k:(x,y') ∈ l):y=y':=by
 induction l with
 | nil=>cases h
 | cons p l ih=>
  simp only [List.map_cons,List.nodup_cons] at hn
  rcases List.mem_cons.1 h with e | e<;>rcases List.mem_cons.1 k with e' | e'
  ·rw [← e] at e'; exact (Prod.mk.inj e').2.symm
  ·subst e; exact absurd (List.mem_map.2 ⟨_,e',rfl⟩) hn.1
  ·subst e'; exact absurd (List.mem_map.2 ⟨_,e,rfl⟩) hn.1
  ·exact ih hn.2 e e'
theorem Conc.reset {E:Ent} {N:Nat} {s s':St} {a:Act} {w:World} (l:List (Nat × Nat)) (h1:(l.map (·.1)).Nodup) (h2:(l.map (·.2)).Nodup) (h:Conc E N s a w) (hE:∀ x b,E.A0 x=some b→(x,x) ∈ l)
  (hG:∀ t v,s'.G t=some v→∃ z z',s.G t=some z∧AVle z z'∧Ren (Zy l) z' v)
  (hV:∀ x y,(x,y) ∈ l→∃ u,VSle (s.V x) u∧RenV (Zy l) u (s'.V y)) (hV':∀ y,y ∉ l.map (·.2)→s'.V y = .fresh):Conc E N s' a w:=by
 obtain ⟨A,I,c⟩:=h
 let A':Nat→Option Nat:=fun y=>(zdr l y).bind A
 have hin:∀ x y,(x,y) ∈ l→A' y=A x:=fun x y hx=>by simp [A',zwO h2 hx]
 have hren:∀ x y b,Zy l x=some y→A x=some b→A' y=some b:=fun x y b hxy hb=>by
  rw [hin _ _ (zwN hxy)]; exact hb
 have hle:∀ y b,A' y=some b→∃ x,(x,y) ∈ l∧A x=some b:=fun y b hb=>by
  obtain ⟨x,hx,hb⟩:=Option.bind_eq_some_iff.1 hb
  exact ⟨x,zq3 hx,hb⟩
 have hmem:∀ y,y ∈ l.map (·.2)→∃ x,(x,y) ∈ l:=fun y hy=>by
  obtain ⟨p,hp,rfl⟩:=List.mem_map.1 hy
  exact ⟨p.1,hp⟩
 refine ⟨A',I,{ hv:=fun y=>?_,inj:=fun y y' b hy hy' hyb hyb'=>?_,imm:=c.imm,frm:=?_,tmps:=c.tmps,defs:=c.defs,G:=fun t v hv=>?_ }⟩
 ·by_cases hy:y ∈ l.map (·.2)
  ·obtain ⟨x,hx⟩:=hmem y hy
   obtain ⟨u,k1,k2⟩:=hV x y hx
   exact (k1.holds (c.hv x)).ren k2 hren (hin x y hx) fun _ _ _ h=>h
  ·rw [hV' y hy]
   show (zdr l y).bind A=none
   cases hb:zdr l y with
   | none=>rfl
   | some x=>exact absurd (List.mem_map.2 ⟨_,zq3 hb,rfl⟩) hy
 ·obtain ⟨x,hx,hxb⟩:=hle y b hyb
  obtain ⟨x',hx',hxb'⟩:=hle y' b hyb'
  obtain ⟨u,k1,k2⟩:=hV x y hx
  obtain ⟨u',k1',k2'⟩:=hV x' y' hx'
  have:=c.inj x x' b (k1.on (k2.on.2 hy)) (k1'.on (k2'.on.2 hy')) hxb hxb'
  subst this
  exact zwP h1 hx hx'
 ·exact { c.frm with
   AA:=fun x b hb=>by rw [hin x x (hE x b hb)]; exact c.frm.AA x b hb }
 ·obtain ⟨z,z',k1,k2,k3⟩:=hG t v hv
  obtain ⟨x,k4,k5⟩:=c.G t z k1
  exact ⟨x,k4,(k2 _ _ _ _ k5).ren hren _ k3⟩
inductive SubG (ρ:Nat→Option Nat) (G:Nat→Option AV):List (Nat × Option AV)→Prop
 | nil:SubG ρ G []
 | cons {t:Nat} {z z' v:AV} {r:List (Nat × Option AV)} (h:G t=some z) (hle:AVle z z') (hd:Ren ρ z' v) (k:SubG ρ G r):SubG ρ G ((t,some v) :: r)
theorem SubG.spec {ρ:Nat→Option Nat} {G:Nat→Option AV} {L:List (Nat × Option AV)} (h:SubG ρ G L):∀ t v,lk L t=some v→∃ z z',G t=some z∧AVle z z'∧Ren ρ z' v:=by
 induction h with
 | nil=>intro t v h; cases h
 | cons h hle hd _ ih=>
  intro t v hv
  simp only [lk] at hv
  split at hv
  ·rename_i e; subst e; cases hv; exact ⟨_,_,h,hle,hd⟩
  ·exact ih t v hv
inductive SubV (ρ:Nat→Option Nat) (V:Nat→VS):List (Nat × Nat)→List (Nat × VS)→Prop
 | nil:SubV ρ V [] []
 | cons {x y:Nat} {u v:VS} {l:List (Nat × Nat)} {r:List (Nat × VS)} (h:VSle (V x) u) (hd:RenV ρ u v) (k:SubV ρ V l r):SubV ρ V ((x,y) :: l) ((y,v) :: r)
theorem SubV.spec {ρ:Nat→Option Nat} {V:Nat→VS} {l:List (Nat × Nat)} {M:List (Nat × VS)} (h:SubV ρ V l M) (hn:(l.map (·.2)).Nodup):(∀ x y,(x,y) ∈ l→∃ u,VSle (V x) u∧RenV ρ u (lv M y))∧l.map (·.2)=M.map (·.1):=by
 induction h with
 | nil=>exact ⟨fun x y h=>(by cases h),rfl⟩
 | cons h hd _ ih=>
  simp only [List.map_cons,List.nodup_cons] at hn
  obtain ⟨k1,k2⟩:=ih hn.2
  refine ⟨fun x y hxy=>?_,by simp only [List.map_cons,k2]⟩
  simp only [lv]
  rcases List.mem_cons.1 hxy with e | e
  ·cases e; rw [wc rfl]; exact ⟨_,h,hd⟩
  ·rw [we]
   ·exact k1 x y e
   ·rintro rfl; exact hn.1 (List.mem_map.2 ⟨_,e,rfl⟩)
theorem zwQ {M:List (Nat × VS)} : ∀ {x:Nat},x ∉ M.map (·.1)→lv M x = .fresh:=by
 induction M with
 | nil=>intro x _; rfl
 | cons p r ih=>
  intro x h
  obtain ⟨y,v⟩:=p
  simp at h
  simp only [lv]
  rw [we h.1]; exact ih (by simpa using h.2)
theorem Conc.join {E:Ent} {N:Nat} {L L':List (Nat × Option AV)} {M M':List (Nat × VS)} {a:Act} {w:World} {m:Nat} (l:List (Nat × Nat)) (h:Conc E N (mkS L M) a w) (hE:∀ x,m≤x→E.A0 x=none)
  (hm:(decide (l.map (·.1)).Nodup && decide (l.map (·.2)).Nodup && (List.range m).all fun x=>l.contains (x,x))=true)
  (hG:SubG (Zy l) (lk L) L') (hV:SubV (Zy l) (lv M) l M'):Conc E N (mkS L' M') a w:=by
 simp only [Bool.and_eq_true,decide_eq_true_eq] at hm
 obtain ⟨⟨h1,h2⟩,h3⟩:=hm
 obtain ⟨k1,k2⟩:=hV.spec h2
 refine Conc.reset (s:=mkS L M) (s':=mkS L' M') l h1 h2 h (fun x b hb=>?_) (fun t v hv=>hG.spec t v hv) k1 fun y hy=>zwQ (by rw [← k2]; exact hy)
 have hlt:x<m:=Nat.lt_of_not_le fun hle=>by rw [hE x hle] at hb; cases hb
 have:=List.all_eq_true.1 h3 x (by simpa using hlt)
 simpa using this
theorem Conc.freeze {E:Ent} {N:Nat} {L:List (Nat × Option AV)} {M:List (Nat × VS)} {a:Act} {w:World} (h:Conc E N (mkS L M) a w) (t x sz off n:Nat) (T:TypeId) (els:List (List AV))
  (ht:lk L t=some (.row x sz off n)) (hx:lv M x = .rw T sz els) (hn:off+n≤els.length):Conc E N (mkS ((t,some (.sl ((els.drop off).take n))) :: L) ((x,.dead) :: M)) a w:=by
 obtain ⟨A,I,c⟩:=h
 have hh:=c.hv x
 have hx':(mkS L M).V x = .rw T sz els:=hx
 rw [hx'] at hh
 obtain ⟨b,arr,h1,h2,h3,h4,h5,h6,h7⟩:=hh
 obtain ⟨u,c'⟩:=c.freeze x b (by rw [hx']; trivial) h1
 obtain ⟨y,hy,hr⟩:=c.G t _ ht
 refine ⟨A,_,{ hv:=?_,inj:=?_,imm:=c'.imm,frm:=c'.frm,tmps:=c'.tmps,defs:=c'.defs,G:=fun t' v hv=>?_ }⟩
 ·intro z; have:=c'.hv z; show Holds E w A _ z (lv ((x,.dead) :: M) z); rw [← zdp]; exact this
 ·have:=c'.inj; intro p q k; show (lv ((x,.dead) :: M) p).on→(lv ((x,.dead) :: M) q).on→_; rw [← zdp]; exact this p q k
 ·have hv':lk ((t,some (.sl ((els.drop off).take n))) :: L) t'=some v:=hv
  simp only [lk] at hv'
  split at hv'
  ·rename_i e; subst e
   cases hv'
   refine ⟨y,hy,?_⟩
   cases hr with
   | row _ _ _ _ cap b' arr' T' fr ad hA hb hn' ha hc hm=>
    rw [h1] at hA; cases hA
    rw [h2] at hb; cases hb
    have hlen:((els.drop off).take n).length=n:=by simp; omega
    by_cases hn0:n=0
    ·subst hn0; simp; exact .sl0 _ _
    ·have:=ha wa; subst this
     have hle:off*sz+n*sz≤els.length*sz:=by rw [← Nat.add_mul]; exact Nat.mul_le_mul_right _ hn
     have:=Rep.sl (w:=w) (A:=A) (I:=fun k=>I k∨k=b) ((els.drop off).take n) sz b (off*sz) cap arr T (0,0) (.inr rfl) h2 wa wa
      (fun e he=>h3 e (List.mem_of_mem_drop (List.mem_of_mem_take he))) (by rw [hlen]; omega) ?_
     ·rw [hlen] at this; exact this
     ·intro i j hi hj
      have hg:((els.drop off).take n).getD i []=els.getD (off+i) []:=by
       simp only [List.getD]
       rw [List.getElem?_take_of_lt wa,List.getElem?_drop]
      rw [hg]
      have:=h5 (off+i) j wa hj
      rw [Nat.add_mul,Nat.add_assoc] at this
      exact u.rep this
  ·obtain ⟨z,g1,g2⟩:=c.G t' v hv'
   exact ⟨z,g1,u.rep g2⟩
section walk
variable {P:Program} {E:Ent} {N:Nat} {R:Type}
def T (P:Program) (E:Ent) (N:Nat) {R:Type} (o:Option R) (c:Code) (s:St) (Q:R→Exit→Act→World→Prop):Prop:=∀ r,o=some r→∀ a w,Conc E N s a w→c.wpIn E.F 0 P (Q r) a w
def TQ (E:Ent) (N:Nat) {R:Type} (o:Option R) (e:Exit) (s:St) (Q:R→Exit→Act→World→Prop):Prop:=∀ r,o=some r→∀ a w,Conc E N s a w→Q r e a w
def TR (P:Program) (E:Ent) (N:Nat) {R:Type} (ops:Array Oper) (o:Option R) (l:List Oper) (s:St) (Q:R→Exit→Act→World→Prop):Prop:=∀ r,o=some r→∀ a w,Conc E N s a w→wpListIn E.F 0 P ops (Q r) l a w
def Chain (P:Program) (N:Nat) (ops:Array Oper):St→List Oper→List Ev→St→Prop
 | s,[],[],s'=>s'=s
 | s,o :: os,e :: es,s'=>Snd P ops o N s e∧Chain P N ops (e.patch s) os es s'
 | _,_,_,_=>False
def TD (P:Program) (E:Ent) (N:Nat) {R:Type} (ops:List Oper) (o:Option R) (l:List Oper) (s:St) (acc:List Ev) (Q:R→Exit→Act→World→Prop):Prop:=
 ∀ r,o=some r→∃ es s',Chain P N ops.toArray s l es s'∧zdo ops (acc++es)=true∧∀ a w,Conc E N s' a w→Q r .normal a w
variable {o:Option R} {s:St} {Q:R→Exit→Act→World→Prop}
def zg1 (P:Program) (E:Ent) (b:Code) (Q:R→Exit→Act→World→Prop):R→Exit→Act→World→Prop:=fun r=>Exit.then (b.wpIn E.F 0 P (Q r)) (Q r)
def zeL (id:Nat) (Q:R→Exit→Act→World→Prop):R→Exit→Act→World→Prop:=fun r=>Exit.inBlock id (Q r)
theorem T.seq {a b:Code} (h:T P E N o a s (zg1 P E b Q)):T P E N o (.seq a b) s Q:=fun r hr x w hc=>wpIn_seq (h r hr x w hc)
theorem T.block {id:Nat} {c:Code} (h:T P E N o c s (zeL id Q)):T P E N o (.block id c) s Q:=fun r hr x w hc=>wpIn_block (h r hr x w hc)
theorem T.skip (h:TQ E N o .normal s Q):T P E N o .skip s Q:=fun r hr x w hc=>wpIn_skip (h r hr x w hc)
theorem T.label {l:Nat} (h:TQ E N o .normal s Q):T P E N o (.label l) s Q:=fun r hr x w hc=>wpIn_label (h r hr x w hc)
theorem T.exit {id:Nat} (h:TQ E N o (.exit id) s Q):T P E N o (.exit id) s Q:=fun r hr x w hc=>wpIn_exit (h r hr x w hc)
theorem T.ret (h:TQ E N o .ret s Q):T P E N o .ret s Q:=fun r hr x w hc=>wpIn_ret (h r hr x w hc)
theorem TQ.seq {b:Code} (h:T P E N o b s Q):TQ E N o .normal s (zg1 P E b Q):=h
theorem TQ.seq_exit {b:Code} {id:Nat} (h:TQ E N o (.exit id) s Q):TQ E N o (.exit id) s (zg1 P E b Q):=h
theorem TQ.seq_ret {b:Code} (h:TQ E N o .ret s Q):TQ E N o .ret s (zg1 P E b Q):=h
theorem TQ.block {id:Nat} (h:TQ E N o .normal s Q):TQ E N o .normal s (zeL id Q):=h
theorem TQ.block_exit {id:Nat} (h:TQ E N o .normal s Q):TQ E N o (.exit id) s (zeL id Q):=fun r hr a w hc=>by
 show Exit.inBlock id (Q r) (.exit id) a w
 simp only [Exit.inBlock,if_true]; exact h r hr a w hc
theorem TQ.block_pass {id id':Nat} (hne:id'≠id) (h:TQ E N o (.exit id') s Q):TQ E N o (.exit id') s (zeL id Q):=fun r hr a w hc=>by
 show Exit.inBlock id (Q r) (.exit id') a w
 simp only [Exit.inBlock,we hne]; exact h r hr a w hc
theorem TQ.block_ret {id:Nat} (h:TQ E N o .ret s Q):TQ E N o .ret s (zeL id Q):=h
theorem T.cond {c:Operand} {x y:Code} {b:Bool} {ot oe:Option R} (hc:opd s.G c=some (.bool b)) (ht:b=true→T P E N ot x s Q) (hf:b=false→T P E N oe y s Q):T P E N (if b=true then ot else oe) (.cond c x y) s Q:=by
 intro r hr a w hcc
 obtain ⟨A,I,cc⟩:=hcc
 have hv:=cc.opd hc
 generalize hq:a.eval c=q at hv
 cases hv
 cases b with
 | true=>exact wpIn_cond_true hq (ht rfl r (by simpa using hr) a w ⟨A,I,cc⟩)
 | false=>exact wpIn_cond_false hq (hf rfl r (by simpa using hr) a w ⟨A,I,cc⟩)
theorem T.cond_t {c:Operand} {x y:Code} (hc:opd s.G c=some (.bool true)) (h:T P E N o x s Q):T P E N o (.cond c x y) s Q:=by
 intro r hr a w ⟨A,I,cc⟩
 have hv:=cc.opd hc
 generalize hq:a.eval c=q at hv
 cases hv
 exact wpIn_cond_true hq (h r hr a w ⟨A,I,cc⟩)
theorem T.cond_f {c:Operand} {x y:Code} (hc:opd s.G c=some (.bool false)) (h:T P E N o y s Q):T P E N o (.cond c x y) s Q:=by
 intro r hr a w ⟨A,I,cc⟩
 have hv:=cc.opd hc
 generalize hq:a.eval c=q at hv
 cases hv
 exact wpIn_cond_false hq (h r hr a w ⟨A,I,cc⟩)
theorem T.region {id:Nat} {l:List Oper} (h:TR P E N l.toArray o l s Q):T P E N o (.region id l.toArray false) s Q:=fun r hr a w hc=>wpIn_region_lit (h r hr a w hc)
theorem TR.nil {ops:Array Oper} (h:TQ E N o .normal s Q):TR P E N ops o [] s Q:=h
theorem TR.op {ops:Array Oper} {op:Oper} {l:List Oper} {e:Ev} (hs:Snd P ops op N s e) (h:TR P E N ops o l (e.patch s) Q):TR P E N ops o (op :: l) s Q:=fun r hr a w hc=>by
 have:=hs E s ⟨fun _ _=>rfl,fun _ _=>rfl⟩ a w hc (wpListIn E.F 0 P ops (Q r) l) (Q r) fun a' w' hc'=>h r hr a' w' hc'
 unfold wpO at this
 unfold wpListIn
 split
 ·rename_i hx; rw [wc hx] at this; exact this
 ·rename_i hx; rw [we hx] at this; exact ⟨fun _ _=>trivial,this⟩
theorem Chain.run {ops:Array Oper} : ∀ {l:List Oper} {es:List Ev} {s s':St},Chain P N ops s l es s'→l.length=es.length∧s'=ZN es s (List.range es.length)∧∀ i (x:Oper),l[i]? = some x→Snd P ops x N (ZN es s (List.range i)) (zr es i):=by
 intro l
 induction l with
 | nil=>
  intro es s s' h
  cases es with
  | nil=>exact ⟨rfl,h,fun i x hx=>by simp at hx⟩
  | cons _ _=>exact h.elim
 | cons x l ih=>
  intro es s s' h
  cases es with
  | nil=>exact h.elim
  | cons e es=>
   obtain ⟨h1,h2⟩:=h
   obtain ⟨k1,k2,k3⟩:=ih h2
   have shift:∀ n,ZN (e :: es) s (List.range (n+1))=ZN es (e.patch s) (List.range n):=by
    intro n
    rw [List.range_succ_eq_map]
    unfold ZN
    rw [List.foldl_cons,List.foldl_map]
    rfl
   refine ⟨by simp [k1],by rw [List.length_cons,shift]; exact k2,fun i y hy=>?_⟩
   cases i with
   | zero=>simp at hy; subst hy; exact h1
   | succ i=>
    rw [shift]
    exact k3 i y (by simpa using hy)
theorem T.draw {id:Nat} {l:List Oper} (hm:P.follows .mixedOrders=true) (h:TD P E N l o l s [] Q):T P E N o (.region id l.toArray true) s Q:=by
 intro r hr a w hc
 obtain ⟨es,s',hch,hok,hQ⟩:=h r hr
 obtain ⟨k1,k2,k3⟩:=hch.run
 refine zwf (evs:=es) hm (by simpa using hok) k3 ?_ hc
 rw [k1,← k2]
 exact hQ
theorem TD.nil {ops:List Oper} {acc:List Ev} (hok:zdo ops acc=true) (h:TQ E N o .normal s Q):TD P E N ops o [] s acc Q:=fun r hr=>⟨[],s,rfl,by simpa using hok,h r hr⟩
theorem TD.op {ops:List Oper} {op:Oper} {l:List Oper} {e:Ev} {acc:List Ev} (hs:Snd P ops.toArray op N s e) (h:TD P E N ops o l (e.patch s) (acc++[e]) Q):TD P E N ops o (op :: l) s acc Q:=fun r hr=>by
 obtain ⟨es,s',h1,h2,h3⟩:=h r hr
 exact ⟨e :: es,s',⟨hs,h1⟩,by simpa using h2,h3⟩
theorem T.bind {α:Type} {c:Code} {q:Option α} {k:α→Option R} (h:∀ x,q=some x→T P E N (k x) c s Q):T P E N (q.bind k) c s Q:=fun r hr=>by
 obtain ⟨x,hx,hk⟩:=Option.bind_eq_some_iff.1 hr
 exact h x hx r hk
theorem TR.bind {α:Type} {ops:Array Oper} {l:List Oper} {q:Option α} {k:α→Option R} (h:∀ x,q=some x→TR P E N ops (k x) l s Q):TR P E N ops (q.bind k) l s Q:=fun r hr=>by
 obtain ⟨x,hx,hk⟩:=Option.bind_eq_some_iff.1 hr
 exact h x hx r hk
theorem TD.bind {α:Type} {ops:List Oper} {l:List Oper} {acc:List Ev} {q:Option α} {k:α→Option R} (h:∀ x,q=some x→TD P E N ops (k x) l s acc Q):TD P E N ops (q.bind k) l s acc Q:=fun r hr=>by
 obtain ⟨x,hx,hk⟩:=Option.bind_eq_some_iff.1 hr
 exact h x hx r hk
theorem TR.guard {ops:Array Oper} {l:List Oper} {p:Prop} [Decidable p] (h:p→TR P E N ops o l s Q):TR P E N ops (if p then o else none) l s Q:=fun r hr=>by
 by_cases hp:p
 ·rw [wc hp] at hr; exact h hp r hr
 ·rw [we hp] at hr; cases hr
theorem TD.guard {ops:List Oper} {l:List Oper} {acc:List Ev} {p:Prop} [Decidable p] (h:p→TD P E N ops o l s acc Q):TD P E N ops (if p then o else none) l s acc Q:=fun r hr=>by
 by_cases hp:p
 ·rw [wc hp] at hr; exact h hp r hr
 ·rw [we hp] at hr; cases hr
theorem TR.ite {ops:Array Oper} {l:List Oper} {p:Prop} [Decidable p] {o1 o2:Option R} (h1:p→TR P E N ops o1 l s Q) (h2:¬p→TR P E N ops o2 l s Q):TR P E N ops (if p then o1 else o2) l s Q:=fun r hr=>by
 by_cases hp:p
 ·rw [wc hp] at hr; exact h1 hp r hr
 ·rw [we hp] at hr; exact h2 hp r hr
theorem TD.ite {ops:List Oper} {l:List Oper} {acc:List Ev} {p:Prop} [Decidable p] {o1 o2:Option R} (h1:p→TD P E N ops o1 l s acc Q) (h2:¬p→TD P E N ops o2 l s acc Q):TD P E N ops (if p then o1 else o2) l s acc Q:=fun r hr=>by
 by_cases hp:p
 ·rw [wc hp] at hr; exact h1 hp r hr
 ·rw [we hp] at hr; exact h2 hp r hr
theorem TQ.bind {α:Type} {e:Exit} {q:Option α} {k:α→Option R} (h:∀ x,q=some x→TQ E N (k x) e s Q):TQ E N (q.bind k) e s Q:=fun r hr=>by
 obtain ⟨x,hx,hk⟩:=Option.bind_eq_some_iff.1 hr
 exact h x hx r hk
theorem know {L:List (Nat × Option AV)} {t:Nat} {b c:Bool} (h:lk L t=some (.bool b)) (hb:b=c) (M:List (Nat × VS)):mkS L M=mkS ((t,some (.bool c)) :: L) M:=by
 subst hb
 unfold mkS
 congr 1
 funext y
 simp only [lk]
 split
 ·rename_i e; rw [e,h]
 ·rfl
theorem T.cut {X:Type} {c:Code} (J:X→Option R) (st:X→St) (hj:∀ x,TQ E N (J x) .normal (st x) Q) (h:(∀ x,TQ E N (J x) .normal (st x) Q)→T P E N o c s Q):T P E N o c s Q:=h hj
theorem TQ.weak {e:Exit} {s':St} (h:TQ E N o e s' Q) (hs:∀ a w,Conc E N s a w→Conc E N s' a w):TQ E N o e s Q:=fun r hr a w hc=>h r hr a w (hs a w hc)
theorem T.weak {c:Code} {s':St} (h:T P E N o c s' Q) (hs:∀ a w,Conc E N s a w→Conc E N s' a w):T P E N o c s Q:=fun r hr a w hc=>h r hr a w (hs a w hc)
theorem TR.weak {ops:Array Oper} {l:List Oper} {s':St} (h:TR P E N ops o l s' Q) (hs:∀ a w,Conc E N s a w→Conc E N s' a w):TR P E N ops o l s Q:=fun r hr a w hc=>h r hr a w (hs a w hc)
def zeM (E:Ent) (N:Nat) {X:Type} (F:Nat→X→Option R) (st:X→St) (n:Nat) (Q:R→Exit→Act→World→Prop):R→Exit→Act→World→Prop:=fun r=>
 Exit.then (fun a w=>∃ n',n'<n∧∃ x,F n' x=some r∧Conc E N (st x) a w) (Q r)
theorem zwR {F:Fence} {rm:Nat} {P:Program} {Q:Exit→Act→World→Prop} {a:Act} {w:World} {c:Code} (I:Nat→Act→World→Prop) (n₀:Nat) (h₀:I n₀ a w)
  (round:∀ n a w,I n a w→c.wpIn F rm P (Exit.then (fun a' w'=>∃ n',n'<n∧I n' a' w') Q) a w):(Code.loop c).wpIn F rm P Q a w:=by
 refine wpIn_loop (fun a w=>∃ n,I n a w) (fun a w=>leastOf (fun n=>I n a w)) ⟨n₀,h₀⟩ ?_
 intro a w hI
 refine wpIn_mono (round _ a w (leastOf_spec hI).1) ?_
 intro e a' w' hq
 cases e with
 | normal=>
  obtain ⟨n',hlt,hI'⟩:=hq
  exact show (∃ n,I n a' w')∧leastOf (fun n=>I n a' w')<leastOf (fun n=>I n a w) from ⟨⟨n',hI'⟩,Nat.lt_of_le_of_lt ((leastOf_spec ⟨n',hI'⟩).2 n' hI') hlt⟩
 | _=>exact hq
theorem T.loop {X:Type} {c:Code} (F:Nat→X→Option R) (st:X→St) (n:Nat) (x:X) (hz:∀ x,F 0 x=none) (hb:∀ n x,T P E N (F (n+1) x) c (st x) (zeM E N F st (n+1) Q)):T P E N (F n x) (.loop c) (st x) Q:=by
 intro r hr a w hc
 refine zwR (fun n a w=>∃ x,F n x=some r∧Conc E N (st x) a w) n ⟨x,hr,hc⟩ ?_
 rintro n a w ⟨x,hx,hc⟩
 cases n with
 | zero=>rw [hz] at hx; cases hx
 | succ n=>exact hb n x r hx a w hc
theorem TQ.again {X:Type} {F:Nat→X→Option R} {st:X→St} {n:Nat} (x:X) (hs:∀ a w,Conc E N s a w→Conc E N (st x) a w) (hq:F n x=o):TQ E N o .normal s (zeM E N F st (n+1) Q):=fun r hr a w hc=>
 show ∃ n',n'<n+1∧∃ x,F n' x=some r∧Conc E N (st x) a w from ⟨n,Nat.lt_succ_self n,x,hq.trans hr,hs a w hc⟩
theorem TQ.loop_exit {X:Type} {F:Nat→X→Option R} {st:X→St} {n id:Nat} (h:TQ E N o (.exit id) s Q):TQ E N o (.exit id) s (zeM E N F st n Q):=h
theorem TQ.loop_ret {X:Type} {F:Nat→X→Option R} {st:X→St} {n:Nat} (h:TQ E N o .ret s Q):TQ E N o .ret s (zeM E N F st n Q):=h
end walk
def ld:List VS→Nat→VS
 | [],_=>.dead
 | v :: _,0=>v
 | _ :: r,n+1=>ld r n
def Ent.fw (E:Ent) (w:World):World:=match E.ds with
 | [{ target:=.collected D,.. }]=>w.putObj D (.deferred none)
 | _=>w
def Ent.out (E:Ent):Ent:={ E with w0:=E.fw E.w0,ds:=[],dk:=trivial }
def zg2 (P:Program) (fn:Func) (E:Ent) (res:AV) (V1:Nat→VS) (a:Act) (w:World):Prop:=
 a.defers=E.ds∧(∀ D,E.ds=[{ target:=.collected D,args:=#[] }]→w.heap[D]? = some (.deferred (some [])))∧
  ∃ v A I,(results fn a.tmps).run P (E.fw w) = .ok v (E.fw w)∧Rep (E.fw w) A I res v∧ConV E.out V1 (E.fw w) A I∧Frm E.out (E.fw w) A I
def Aft (E E2:Ent):Prop:=E.ds=[]∧E2.ds≠[]∧(∀ b,E2.own b→E.own b∨E.w0.heap.size≤b)∧Frm E E2.out.w0 E2.A0 E2.I0
def fin (P:Program) (fn:Func) (E:Ent) {R:Type} (res:R→AV) (V1:R→Nat→VS):R→Exit→Act→World→Prop:=fun r e a w=>
 match e with
 | .normal | .ret=>zg2 P fn E (res r) (V1 r) a w∨∃ E2,Aft E E2∧zg2 P fn E2 (res r) (V1 r) a w
 | _=>False
theorem Frm.after {E E2:Ent} {w w':World} {A A':Nat→Option Nat} {I I':Nat→Prop} (h:Frm E w A I) (e1:E2.w0=w) (e2:E2.A0=A) (e3:E2.I0=I) (ho:∀ b,E2.own b→E.own b∨E.w0.heap.size≤b) (k:Frm E2 w' A' I'):Frm E w' A' I':=by
 subst e1; subst e2; subst e3
 have ho':∀ b,E2.own b∨E2.w0.heap.size≤b→E.own b∨E.w0.heap.size≤b:=fun b hb=>hb.elim (ho b) fun x=>.inr (Nat.le_trans h.size x)
 exact {
  size:=Nat.le_trans h.size k.size
  keep:=fun b hb hno=>(k.keep b (Nat.lt_of_lt_of_le hb h.size) fun hx=>(ho b hx).elim hno fun y=>wa).trans (h.keep b hb hno)
  shp:=h.shp.trans k.shp
  os:=k.os.trans h.os
  out:=k.out.trans h.out
  tape:=k.tape.trans h.tape
  IA:=fun b hb=>k.IA b (h.IA b hb)
  AA:=fun x b hb=>k.AA x b (h.AA x b hb)
  IO:=fun b hb=>(k.IO b hb).elim (fun x=>h.IO b x) fun x=>.inr (ho' b x) }
theorem Holds.ent {E E':Ent} {w:World} {A:Nat→Option Nat} {I:Nat→Prop} {x:Nat} {v:VS} (h:Holds E w A I x v) (ho:∀ b,v.on→A x=some b→(E.own b∨E.w0.heap.size≤b)→(E'.own b∨E'.w0.heap.size≤b)):Holds E' w A I x v:=by
 cases v with
 | fresh=>exact h
 | dead=>trivial
 | live T cs=>obtain ⟨b,arr,h1,h2,h3,h4,h5,h6⟩:=h; exact ⟨b,arr,h1,h2,h3,h4,h5,ho b trivial h1 h6⟩
 | rw T sz els=>obtain ⟨b,arr,h1,h2,h3,h4,h5,h6,h7⟩:=h; exact ⟨b,arr,h1,h2,h3,h4,h5,h6,ho b trivial h1 h7⟩
theorem zq4 {P:Program} {fn:Func} {E:Ent} {res:AV} {V1:Nat→VS} {a:Act} {w:World} (hE:E.ds=[]) (h:zg2 P fn E res V1 a w∨∃ E2,Aft E E2∧zg2 P fn E2 res V1 a w) :
  LeavesInM Fence.wide 0 P fn a.tmps (fun e w'=>∃ v A' I',e = .returned v∧Rep w' A' I' res v∧ConV E V1 w' A' I'∧Frm E w' A' I') a.defers .returning w:=by
 rcases h with h | ⟨E2,ha,h⟩
 ·obtain ⟨w0,A0,I0,own,ds,ro,dk⟩:=E
  cases hE
  obtain ⟨h1,_,v,A,I,h2,h3,h4,h5⟩:=h
  rw [h1]
  exact ⟨v,h2,v,A,I,rfl,h3,⟨h4.hv,h4.inj,h4.imm⟩,⟨h5.1,h5.2,h5.3,h5.4,h5.5,h5.6,h5.7,h5.8,h5.9⟩⟩
 ·obtain ⟨_,hne,hown,hf⟩:=ha
  obtain ⟨w0,A0,I0,own,ds,ro,dk⟩:=E2
  obtain ⟨h1,hD,v,A,I,h2,h3,h4,h5⟩:=h
  match ds,dk with
  | [],_=>exact absurd rfl hne
  | [d],dk=>
   obtain ⟨D,rfl,k1,k2,k3⟩:=dk
   rw [h1]
   refine ⟨wb,.inl ⟨D,_,rfl,run_takeDeferred (hD D rfl),?_⟩⟩
   refine ⟨v,h2,v,A,I,rfl,h3,⟨fun x=>(h4.hv x).ent fun b _ _ hb=>?_,h4.inj,h4.imm⟩,Frm.after (E2:=Ent.out ⟨w0,A0,I0,own,[{ target:=.collected D,args:=#[] }],ro,⟨D,rfl,k1,k2,k3⟩⟩) hf rfl rfl rfl hown h5⟩
   exact hb.elim (hown b) fun y=>.inr (Nat.le_trans hf.size y)
theorem zwS {P:Program} {f:FuncId} {fn:Func} {c:Code} {args:List AV} {V0:Nat→VS} {R:Type} {o:Option R} {res:R→AV} {V1:R→Nat→VS} {N:Nat} (hf:P.funcs[f]? = some fn) (hb:fn.body=some c) (hN:fn.ntmps=N) (hal:args.length≤N)
  (h:∀ E,(∀ x,V0 x = .fresh→E.A0 x=none)→T P E N o c ⟨fun t=>args[t]?,V0⟩ (fin P fn E res V1)):∀ r,o=some r→ACalls P f args V0 (res r) (V1 r):=by
 intro r hr w A I vals hl hv cv
 refine (callsIn_wide (n:=0)).1 (callsIn_of_wp_marks hf hb trivial ?_ rfl)
 have hsz:(vals++Array.replicate (fn.ntmps-vals.size) undef).size=N:=by simp; omega
 have hc:Conc ⟨w,A,I,Z9 V0 A,[],none,trivial⟩ N ⟨fun t=>args[t]?,V0⟩ { tmps:=vals++Array.replicate (fn.ntmps-vals.size) undef,defers:=[] } w:=by
  refine ⟨A,I,{ toConV:=cv,frm:=?_,tmps:=hsz,defs:=rfl,G:=fun t v ht=>?_ }⟩
  ·exact ⟨Nat.le_refl _,fun _ _ _=>rfl,Shp.refl w,rfl,rfl,rfl,fun _ h=>h,fun _ _ h=>h,fun _ h=>.inl h⟩
  ·have htl:t<args.length:=(List.getElem?_eq_some_iff.1 ht).1
   have h1:=hv t htl
   have ht':args[t]? = some v:=ht
   have e:args.getD t .nilptr=v:=by simp [List.getD,ht']
   rw [e] at h1
   refine ⟨vals.getD t undef,?_,h1⟩
   rw [Array.getElem?_append_left wa]
   simp [Array.getD,show t<vals.size by omega]
 refine wpIn_mono (h ⟨w,A,I,Z9 V0 A,[],none,trivial⟩ (fun x hx=>?_) r hr _ w hc) ?_
 ·have:=cv.hv x; rw [hx] at this; exact this
 ·intro e a w' hq
  cases e with
  | normal=>exact zq4 rfl hq
  | ret=>exact zq4 rfl hq
  | exit id=>exact hq.elim
  | goto l=>exact hq.elim
  | panic ch=>exact hq.elim
  | outgrown=>exact hq.elim
end Go.Abs
