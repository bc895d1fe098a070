/- The walk's steps, with a list of what is to come. -/
import Derived.Test.YtjffljhmjdljeaaGreatGammToldAbsU
import Derived.Test.YtjffljhmjdljeaaGreatGammToldAbsQ
set_option linter.unusedVariables false
set_option linter.unusedSimpArgs false
namespace Go.Abs
inductive Ctl where
 | c (c:Code)
 | o (a:Array Oper) (l:List Oper)
 | d (a l:List Oper) (acc:List Ev)
 | x (e:Exit)
def Ctl.nd:Ctl→Bool
 | .d _ _ _=>false
 | _=>true
abbrev LG:=List (Nat × Option AV)
abbrev LV:=List (Nat × VS)
inductive Fr (R:Type):Type 1
 | s (b:Code)
 | b (id:Nat)
 | g
 | l (X:Type) (F:Nat→X→Option R) (st:X→LG × LV) (n:Nat)
section
variable (P:Program) (E:Ent) (N:Nat) {R:Type}
def kQ:List (Fr R)→(R→Exit→Act→World→Prop)→R→Exit→Act→World→Prop
 | [],Q=>Q
 | .s b :: k,Q=>zg1 P E b (kQ k Q)
 | .b i :: k,Q=>zeL i (kQ k Q)
 | .g :: k,Q=>fun r=>Exit.noGoto (kQ k Q r)
 | .l _ F st n :: k,Q=>zeM E N F (fun x=>mkS (st x).1 (st x).2) n (kQ k Q)
def G0 (o:Option R) (c:Ctl) (L:LG) (M:LV) (k:List (Fr R)) (Q:R→Exit→Act→World→Prop):Prop:=
 match c with
 | .c c=>T P E N o c (mkS L M) (kQ P E N k Q)
 | .o a l=>TR P E N a o l (mkS L M) (kQ P E N k Q)
 | .d a l acc=>TD P E N a o l (mkS L M) acc (kQ P E N k Q)
 | .x e=>TQ E N o e (mkS L M) (kQ P E N k Q)
end
def G (P:Program) (E:Ent) (N m:Nat) {R:Type} (o:Option R) (c:Ctl) (L:LG) (M:LV) (k:List (Fr R)) (Q:R→Exit→Act→World→Prop):Prop:=(∀ x,m≤x→E.A0 x=none)→G0 P E N o c L M k Q
universe u
def apE {α:Type u} (L:LG) (M:LV) (f:LG→LV→Option α):Ev→Option α
 | ⟨_,some t,v,_,[]⟩=>f ((t,v) :: L) M
 | ⟨_,some t,v,_,[c]⟩=>f ((t,v) :: L) (c :: M)
 | ⟨_,none,_,_,[]⟩=>f L M
 | ⟨_,none,_,_,[c]⟩=>f L (c :: M)
 | _=>none
theorem zrw {α:Type u} {L:LG} {M:LV} {f:LG→LV→Option α} {e:Ev} {r:α} (h:apE L M f e=some r):∃ L' M',e.patch (mkS L M)=mkS L' M'∧f L' M'=some r:=by
 unfold apE at h
 split at h
 ·exact ⟨_,_,Zb _ _ _,h⟩
 ·exact ⟨_,_,Zb _ _ _,h⟩
 ·exact ⟨_,_,Zb _ _ _,h⟩
 ·exact ⟨_,_,Zb _ _ _,h⟩
 ·cases h
def one (tb:List (Nat × TE)) (N:Nat) {R:Type} (c:Ctl) (L:LG) (M:LV) (k:List (Fr R)):Option (Ctl × LG × LV × List (Fr R)):=
 match c with
 | .c c=>match c with
  | .seq a b=>some (.c a,L,M,.s b :: k)
  | .skip=>some (.x .normal,L,M,k)
  | .label _=>some (.x .normal,L,M,k)
  | .block i c=>some (.c c,L,M,.b i :: k)
  | .exit i=>some (.x (.exit i),L,M,k)
  | .ret=>some (.x .ret,L,M,k)
  | .scope c=>some (.c c,L,M,.g :: k)
  | .region _ ⟨l⟩ false=>some (.o ⟨l⟩ l,L,M,k)
  | .region _ ⟨l⟩ true=>some (.d l l [],L,M,k)
  | .cond c x y=>match opd (lk L) c with
   | some (.bool true)=>some (.c x,L,M,k)
   | some (.bool false)=>some (.c y,L,M,k)
   | _=>none
  | _=>none
 | .o a l=>match l with
  | []=>some (.x .normal,L,M,k)
  | op :: l=>obd (stp tb a N op L M) fun e=>apE L M (fun L M=>some (.o a l,L,M,k)) e
 | .d a l acc=>match l with
  | []=>none
  | op :: l=>obd (stp tb ⟨a⟩ N op L M) fun e=>apE L M (fun L M=>some (.d a l (acc++[e]),L,M,k)) e
 | .x .normal=>match k with
  | .s b :: k=>some (.c b,L,M,k)
  | .b _ :: k=>some (.x .normal,L,M,k)
  | .g :: k=>some (.x .normal,L,M,k)
  | _=>none
 | .x (.exit i)=>match k with
  | .s _ :: k=>some (.x (.exit i),L,M,k)
  | .b j :: k=>match Nat.beq i j with
   | true=>some (.x .normal,L,M,k)
   | false=>some (.x (.exit i),L,M,k)
  | .g :: k=>some (.x (.exit i),L,M,k)
  | .l _ _ _ _ :: k=>some (.x (.exit i),L,M,k)
  | _=>none
 | .x .ret=>match k with
  | .s _ :: k=>some (.x .ret,L,M,k)
  | .b _ :: k=>some (.x .ret,L,M,k)
  | .g :: k=>some (.x .ret,L,M,k)
  | .l _ _ _ _ :: k=>some (.x .ret,L,M,k)
  | _=>none
 | _=>none
def adv (tb:List (Nat × TE)) (N:Nat) {R:Type} : Nat→Ctl→LG→LV→List (Fr R)→Option (Ctl × LG × LV × List (Fr R))
 | 0,c,L,M,k=>some (c,L,M,k)
 | n+1,c,L,M,k=>match one tb N c L M k with
  | some (c,L,M,k)=>adv tb N n c L M k
  | none=>none
section
variable {P:Program} {E:Ent} {N m:Nat} {R:Type} {o:Option R} {c:Ctl} {L:LG} {M:LV} {k:List (Fr R)} {Q:R→Exit→Act→World→Prop} {tb:List (Nat × TE)}
theorem zni [ht:TB P tb] {c':Ctl} {L':LG} {M':LV} {k':List (Fr R)} (h:one tb N c L M k=some (c',L',M',k')) (g:G0 P E N o c' L' M' k' Q):G0 P E N o c L M k Q:=by
 unfold one at h
 split at h
 ·split at h
  ·cases h; exact T.seq g
  ·cases h; exact T.skip g
  ·cases h; exact T.label g
  ·cases h; exact T.block g
  ·cases h; exact T.exit g
  ·cases h; exact T.ret g
  ·cases h; exact T.scope g
  ·cases h; exact T.region g
  ·cases h; exact T.draw ht.mx g
  ·split at h
   ·rename_i q; cases h; exact T.cond_t q g
   ·rename_i q; cases h; exact T.cond_f q g
   ·cases h
  ·cases h
 ·split at h
  ·cases h; exact TR.nil g
  ·obtain ⟨e,h1,h2⟩:=zt h
   obtain ⟨L1,M1,h3,h4⟩:=zrw h2
   cases h4
   exact TR.op (zrv h1) (by rw [h3]; exact g)
 ·split at h
  ·cases h
  ·obtain ⟨e,h1,h2⟩:=zt h
   obtain ⟨L1,M1,h3,h4⟩:=zrw h2
   cases h4
   exact TD.op (zrv h1) (by rw [h3]; exact g)
 ·split at h
  ·cases h; exact TQ.seq g
  ·cases h; exact TQ.block g
  ·cases h; exact TQ.scope g
  ·cases h
 ·split at h
  ·cases h; exact TQ.seq_exit g
  ·rename_i i k j
   split at h
   ·rename_i q
    cases h
    have:=Nat.eq_of_beq_eq_true q
    subst this
    exact TQ.block_exit g
   ·rename_i q
    cases h
    exact TQ.block_pass (fun e=>by subst e; rw [Nat.beq_refl] at q; cases q) g
  ·cases h; exact TQ.scope_exit g
  ·cases h; exact TQ.loop_exit g
  ·cases h
 ·split at h
  ·cases h; exact TQ.seq_ret g
  ·cases h; exact TQ.block_ret g
  ·cases h; exact TQ.scope_ret g
  ·cases h; exact TQ.loop_ret g
  ·cases h
 ·cases h
theorem zrx [TB P tb]:∀ {n:Nat} {c:Ctl} {L:LG} {M:LV} {k:List (Fr R)} {c':Ctl} {L':LG} {M':LV} {k':List (Fr R)},adv tb N n c L M k=some (c',L',M',k')→G0 P E N o c' L' M' k' Q→G0 P E N o c L M k Q
 | 0,c,L,M,k,c',L',M',k',h,g=>by cases h; exact g
 | n+1,c,L,M,k,c',L',M',k',h,g=>by
  simp only [adv] at h
  split at h
  ·rename_i q; exact zni q (zrx h g)
  ·cases h
theorem G.g [TB P tb] (n:Nat) {c':Ctl} {L':LG} {M':LV} {k':List (Fr R)} (h:adv tb N n c L M k=some (c',L',M',k')) (g:G P E N m o c' L' M' k' Q):G P E N m o c L M k Q:=fun hE=>zrx h (g hE)
theorem G.bind {α:Type} {q:Option α} {f:α→Option R} (h:∀ x,q=some x→G P E N m (f x) c L M k Q):G P E N m (q.bind f) c L M k Q:=fun hE=>by
 cases c with
 | c c=>exact T.bind fun x hx=>h x hx hE
 | o a l=>exact TR.bind fun x hx=>h x hx hE
 | d a l acc=>exact TD.bind fun x hx=>h x hx hE
 | x e=>exact TQ.bind fun x hx=>h x hx hE
theorem G.no:G P E N m (Option.none:Option R) c L M k Q:=fun _=>by
 cases c<;>intro r hr<;>cases hr
theorem G.ite {p:Prop} [Decidable p] {o1 o2:Option R} (h1:p→G P E N m o1 c L M k Q) (h2:¬p→G P E N m o2 c L M k Q):G P E N m (if p then o1 else o2) c L M k Q:=by
 by_cases hp:p
 ·rw [wc hp]; exact h1 hp
 ·rw [we hp]; exact h2 hp
theorem G.guard {p:Prop} [Decidable p] (h:p→G P E N m o c L M k Q):G P E N m (if p then o else none) c L M k Q:=G.ite h fun _=>G.no
theorem G.weak {L':LG} {M':LV} (h:G P E N m o c L' M' k Q) (hs:∀ a w,Conc E N (mkS L M) a w→Conc E N (mkS L' M') a w) (hc:c.nd=true:=by rfl):G P E N m o c L M k Q:=fun hE=>by
 have g:=h hE
 cases c with
 | c c=>exact T.weak g hs
 | o a l=>exact TR.weak g hs
 | x e=>exact TQ.weak g hs
 | d a l acc=>cases hc
end
end Go.Abs
