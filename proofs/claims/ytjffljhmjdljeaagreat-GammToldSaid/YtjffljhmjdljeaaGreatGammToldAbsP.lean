/- Rows that grow: nil as long as they hold nothing. -/
import Derived.Test.YtjffljhmjdljeaaGreatGammToldAbsO
set_option linter.unusedVariables false
set_option linter.unusedSimpArgs false
namespace Go.Abs
section
variable {α:Type} (K:Kd α)
def grA (x:Nat):List α→AV
 | []=>.nilsl
 | a :: l=>.row x K.sz 0 (a :: l).length
def grV (T:TypeId):List α→VS
 | []=>.dead
 | a :: l=>rwK K T (a :: l)
variable {K}
theorem zrj {x:Nat} {l:List α} (h:0<l.length):grA K x l = .row x K.sz 0 l.length:=by cases l with
 | nil=>cases h
 | cons=>rfl
theorem zrk {T:TypeId} {l:List α} (h:0<l.length):grV K T l=rwK K T l:=by cases l with
 | nil=>cases h
 | cons=>rfl
theorem zC {ρ:Nat→Option Nat} {x y:Nat} (h:ρ x=some y) (l:List α):Ren ρ (grA K x l) (grA K y l):=by
 cases l with
 | nil=>exact .nilsl
 | cons a l=>exact .row _ _ _ _ _ h
theorem zE {ρ:Nat→Option Nat} (T:TypeId) (l:List α):RenV ρ (grV K T l) (grV K T l):=by
 cases l with
 | nil=>exact .dead
 | cons a l=>exact zm9 _ _
theorem Conc.le {E:Ent} {N:Nat} {s s':St} {a:Act} {w:World} (h:Conc E N s a w) (hG:∀ t v,s'.G t=some v→∃ z,s.G t=some z∧AVle z v) (hV:∀ x,VSle (s.V x) (s'.V x)):Conc E N s' a w:=by
 obtain ⟨A,I,c⟩:=h
 refine ⟨A,I,{ hv:=fun x=>(hV x).holds (c.hv x),inj:=fun p q k hp hq=>c.inj p q k ((hV p).on hp) ((hV q).on hq),imm:=c.imm,frm:=c.frm,tmps:=c.tmps,defs:=c.defs,G:=fun t v hv=>?_ }⟩
 obtain ⟨z,h1,h2⟩:=hG t v hv
 obtain ⟨y,h3,h4⟩:=c.G t z h1
 exact ⟨y,h3,h2 _ _ _ _ h4⟩
theorem Conc.put1 {E:Ent} {N:Nat} {L:List (Nat × Option AV)} {M:List (Nat × VS)} {a:Act} {w:World} (h:Conc E N (mkS L M) a w) {t x:Nat} {v v':AV} {c c':VS} (ht:lk L t=some v) (hx:lv M x=c) (h1:AVle v v') (h2:VSle c c') :
  Conc E N (mkS ((t,some v') :: L) ((x,c') :: M)) a w:=by
 refine h.le (fun u z hz=>?_) fun y=>?_
 ·have hz':lk ((t,some v') :: L) u=some z:=hz
  rw [← zmT] at hz'
  unfold upd at hz'
  split at hz'
  ·rename_i e; subst e; cases hz'; exact ⟨v,ht,h1⟩
  ·exact ⟨z,hz',AVle.refl _⟩
 ·show VSle (lv M y) (lv ((x,c') :: M) y)
  rw [← zdp]
  unfold upd
  split
  ·rename_i e; subst e; rw [hx]; exact h2
  ·exact .refl _
theorem Conc.noV {E:Ent} {N:Nat} {L:List (Nat × Option AV)} {M:List (Nat × VS)} {a:Act} {w:World} {x:Nat} (h:Conc E N (mkS L ((x,lv M x) :: M)) a w):Conc E N (mkS L M) a w:=by
 have e:lv ((x,lv M x) :: M)=lv M:=by
  rw [← zdp]; funext y; unfold upd; split
  ·rename_i e; subst e; rfl
  ·rfl
 unfold mkS at h ⊢; rw [e] at h; exact h
theorem Conc.gr_nil (K:Kd α) {E:Ent} {N:Nat} {L:List (Nat × Option AV)} {M:List (Nat × VS)} {a:Act} {w:World} (h:Conc E N (mkS L M) a w) (t x:Nat) (T:TypeId) (ht:lk L t=some .nilsl) :
  Conc E N (mkS ((t,some (grA K x [])) :: L) ((x,grV K T []) :: M)) a w:=h.put1 ht rfl (AVle.refl _) (.dead _)
theorem Conc.gr_row (K:Kd α) {E:Ent} {N:Nat} {L:List (Nat × Option AV)} {M:List (Nat × VS)} {a:Act} {w:World} (h:Conc E N (mkS L M) a w) (t x:Nat) (T:TypeId) (l:List α) (ht:lk L t=some (.row x K.sz 0 l.length)) (hx:lv M x=rwK K T l) (hl:0<l.length) :
  Conc E N (mkS ((t,some (grA K x l)) :: L) ((x,grV K T l) :: M)) a w:=by
 rw [zrj hl,zrk hl]; exact h.put1 ht hx (AVle.refl _) (.refl _)
theorem Conc.gr_still (K:Kd α) {E:Ent} {N:Nat} {L:List (Nat × Option AV)} {M:List (Nat × VS)} {a:Act} {w:World} (h:Conc E N (mkS L M) a w) (t x:Nat) (T:TypeId) (l:List α) (ht:lk L t=some (grA K x l)) (hx:lv M x=grV K T l) :
  Conc E N (mkS ((t,some (slK K l)) :: L) ((x,.dead) :: M)) a w:=by
 cases l with
 | nil=>exact h.put1 ht rfl AVle.nil (.dead _)
 | cons c l=>
  have:=h.freezeK K t x 0 (c :: l).length T (c :: l) ht hx wa
  exact ZO this
theorem Conc.gr_open1 (K:Kd α) {E:Ent} {N:Nat} {L:List (Nat × Option AV)} {M:List (Nat × VS)} {a:Act} {w:World} (h:Conc E N (mkS L M) a w) (t x:Nat) (l:List α) (hl:0<l.length) (ht:lk L t=some (grA K x l)) :
  Conc E N (mkS ((t,some (.row x K.sz 0 l.length)) :: L) M) a w:=by
 rw [zrj hl] at ht
 have:=h.put1 (x:=x) ht rfl (AVle.refl _) (.refl _)
 have e:lv ((x,lv M x) :: M)=lv M:=by
  rw [← zdp]; funext y; unfold upd; split
  ·rename_i e; subst e; rfl
  ·rfl
 unfold mkS at this ⊢; rw [e] at this; exact this
theorem Conc.gr_openV (K:Kd α) {E:Ent} {N:Nat} {L:List (Nat × Option AV)} {M:List (Nat × VS)} {a:Act} {w:World} (h:Conc E N (mkS L M) a w) (x:Nat) (T:TypeId) (l:List α) (hl:0<l.length) (hx:lv M x=grV K T l) :
  Conc E N (mkS L ((x,rwK K T l) :: M)) a w:=by
 rw [zrk hl] at hx
 have e:lv ((x,rwK K T l) :: M)=lv M:=by
  rw [← zdp]; funext y; unfold upd; split
  ·rename_i e; subst e; exact hx.symm
  ·rfl
 unfold mkS at h ⊢; rw [e]; exact h
variable {P:Program} {ops:Array Oper} {o:Oper} {N:Nat} {s:St}
theorem Snd.also {rs:List Nat} {d:Option Nat} {dv:Option AV} {rv:List Nat} {wv:List (Nat × VS)} (x:Nat) (v:VS) (h:Snd P ops o N s ⟨rs,d,dv,rv,wv⟩) (hx:s.V x=v) (hn:(wv.map (·.1)).contains x=false):Snd P ops o N s ⟨rs,d,dv,rv++[x],wv++[(x,v)]⟩:=by
 intro E s' hag a w hc K Q hK
 have hxv:s'.V x=v:=(hag.2 x wb).trans hx
 refine h E s' ⟨fun t ht=>hag.1 t ht,fun y hy=>hag.2 y (List.mem_append.2 (.inl hy))⟩ a w hc K Q fun a' w' hc'=>hK a' w' ?_
 have:∀ (l:List (Nat × VS)) (V:Nat→VS),(l.map (·.1)).contains x=false→V x=v→updL V (l++[(x,v)])=updL V l:=by
  intro l
  induction l with
  | nil=>intro V _ hV; funext y; simp [updL,upd]; intro e; subst e; exact hV.symm
  | cons p l ih=>
   intro V hp hV
   simp only [List.map_cons,List.contains_cons,Bool.or_eq_false_iff] at hp
   have h0:=ih V hp.2 hV
   simp only [List.cons_append,updL,h0]
 unfold Ev.patch at hc' ⊢
 simp only at hc' ⊢
 rw [this wv s'.V hn hxv]; exact hc'
theorem zax (K:Kd α) (T e bytes:Nat) (x y:Operand) (xn z:Nat) (X l:List α) (ho:o.op = .call ⟨.builtin .append,#[x,y],#[T,T]⟩) (hT:P.underlying T=some (.slice e)) (hz:qR P e (K.enc K.z))
  (hsz:(P.info? e).map (fun i=>(i.size,i.bytes))=some (K.sz,bytes)) (hd:dlt o N=true) (hw:wnt ops o s.G=some true) (hfr:s.V z = .fresh) (hne:Nat.beq z xn=false)
  (hx:opd s.G x=some (grA K xn X)) (hX:s.V xn=grV K e X) (hy:opd s.G y=some (slK K l)) (h:0<l.length∧X.length+l.length≤9223372036854775807∧(X.length+l.length)*bytes≤140737488355328) :
  Snd P ops o N s ⟨gsl ops o++[x,y].flatMap opr,o.dst,some (.row z K.sz 0 (X++l).length),[z,xn],[(z,rwK K e (X++l)),(xn,.dead)]⟩:=by
 cases X with
 | nil=>
  have:=zrf K T e bytes x y z l ho hT hz hsz hd hw hfr hx hy (by simpa using h)
  exact Snd.also xn .dead this hX (by simp; intro e; subst e; simp at hne)
 | cons c X=>exact zg4 K T e bytes x y xn z (c :: X) l ho hT hz hsz hd hw hfr hx hX hy h
theorem Snd.die {rs:List Nat} {d:Option Nat} {dv:Option AV} {rv:List Nat} {wv:List (Nat × VS)} (x:Nat) (h:Snd P ops o N s ⟨rs,d,dv,rv,wv⟩):Snd P ops o N s ⟨rs,d,dv,rv++[x],(x,.dead) :: wv⟩:=by
 intro E s' hag a w hc K Q hK
 refine h E s' ⟨fun t ht=>hag.1 t ht,fun y hy=>hag.2 y (List.mem_append.2 (.inl hy))⟩ a w hc K Q fun a' w' hc'=>hK a' w' ?_
 unfold Ev.patch at hc' ⊢
 refine hc'.le (fun t v hv=>⟨v,?_,AVle.refl _⟩) fun y=>?_
 ·unfold St.set at hv ⊢; cases d<;>exact hv
 ·have e1:∀ V:Nat→VS,(St.set ⟨s'.G,V⟩ d dv).V=V:=fun V=>by unfold St.set; cases d<;>rfl
  rw [e1,e1]
  simp only [updL]
  unfold upd
  split
  ·exact .dead _
  ·exact .refl _
theorem zxj (K:Kd α) (T e bytes:Nat) (x y:Operand) (z:Nat) (l:List α) (ho:o.op = .call ⟨.builtin .append,#[x,y],#[T,T]⟩) (hT:P.underlying T=some (.slice e)) (hz:qR P e (K.enc K.z))
  (hsz:(P.info? e).map (fun i=>(i.size,i.bytes))=some (K.sz,bytes)) (hd:dlt o N=true) (hw:wnt ops o s.G=some true) (hfr:s.V z = .fresh)
  (hx:opd s.G x=some .nilsl) (hy:opd s.G y=some (slK K l)) (h:l.length≤9223372036854775807∧l.length*bytes≤140737488355328) :
  Snd P ops o N s ⟨gsl ops o++[x,y].flatMap opr,o.dst,some (grA K z l),[z],[(z,grV K e l)]⟩:=by
 cases l with
 | cons c l=>exact zrf K T e bytes x y z (c :: l) ho hT hz hsz hd hw hfr hx hy ⟨Nat.succ_pos _,h⟩
 | nil=>
  refine Snd.die (rv:=[]) z (wv:=[]) ?_
  refine qm [x,y] [.nilsl,slK K []] _ hd hw (by simp [hx,hy]) fun ρ w A I h=>?_
  have h0:=h 0 wb
  have h1:=h 1 wb
  simp at h0 h1
  have hso:(sizeOf e).run P w = .ok K.sz w:=by
   cases hi:P.info? e with
   | none=>rw [hi] at hsz; cases hsz
   | some i=>rw [hi] at hsz; simp [sizeOf,typeInfo,hi]; simp at hsz; exact hsz.1
  generalize hq:ρ x=q at h0
  generalize hp:ρ y=p at h1
  have hfirst:∀ (b:Option Addr) (cap:Nat),(Builtin.firstCells K.sz 0 (.slice b 0 cap)).run P w = .ok #[] w:=by
   intro b cap
   cases b with
   | none=>simp [Builtin.firstCells]
   | some b=>simpa using run_firstCells_some (P:=P) w K.sz 0 b 0 cap [] wb (fun j v h=>by simp at h)
  cases h0 with
  | nilsl=>
   have hlz:∀ p,Rep w A I (slK K []) p→∃ ad cap,p = .slice ad 0 cap:=by
    intro p hp
    unfold slK at hp
    simp only [List.map_nil] at hp
    cases hp with
    | sl0 ad cap=>exact ⟨ad,cap,rfl⟩
    | sl _ _ _ _ _ _ _ _ _ _ h0=>simp at h0
   obtain ⟨ad,cap,rfl⟩:=hlz p h1
   have hrun:(Builtin.append_ #[T,T] o.type #[.slice none 0 0,.slice ad 0 cap]).run P w = .ok (.slice none 0 0) w:=by
    unfold Builtin.append_
    simp only [List.getElem?_toArray,List.getElem?_cons_zero,List.getElem?_cons_succ]
    simp [Sem.run_bind,run_underlying hT,hso,Builtin.lenOf,hfirst]
   refine ⟨.slice none 0 0,?_,.nilsl⟩
   simp only [execOp,ho,resolve,invoke,builtin,Sem.run_bind,Sem.run_pure,Result.andThen_ok]
   have e1:Array.map ρ #[x,y] = #[.slice none 0 0,.slice ad 0 cap]:=by simp [hq,hp]
   rw [e1,hrun]
   simp
end
end Go.Abs
