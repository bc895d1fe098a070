/- Calls: what a call is told to do; an operation that calls. -/
import Derived.Test.YtjffljhmjdljeaaGreatGammToldAbsI
set_option linter.unusedVariables false
set_option linter.unusedSimpArgs false
namespace Go.Abs
def Z9 (V:Nat→VS) (A:Nat→Option Nat):Nat→Prop:=fun b=>∃ x,(V x).on∧A x=some b
def ACalls (P:Program) (f:FuncId) (args:List AV) (V0:Nat→VS) (r:AV) (V1:Nat→VS):Prop:=
 ∀ (w:World) (A:Nat→Option Nat) (I:Nat→Prop) (vals:Array Value),vals.size=args.length→(∀ i,i<args.length→Rep w A I (args.getD i .nilptr) (vals.getD i undef))→
  ConV ⟨w,A,I,Z9 V0 A,[],none,trivial⟩ V0 w A I→
  Calls P f vals w fun e w'=>∃ v A' I',e = .returned v∧Rep w' A' I' r v∧ConV ⟨w,A,I,Z9 V0 A,[],none,trivial⟩ V1 w' A' I'∧Frm ⟨w,A,I,Z9 V0 A,[],none,trivial⟩ w' A' I'
inductive RenV (ρ:Nat→Option Nat):VS→VS→Prop
 | fresh:RenV ρ .fresh .fresh
 | dead:RenV ρ .dead .dead
 | live (T:TypeId) (a a':List AV) (h:a.length=a'.length) (hr:∀ i,Ren ρ (a.getD i .nilptr) (a'.getD i .nilptr)):RenV ρ (.live T a) (.live T a')
 | rw (T:TypeId) (sz:Nat) (a a':List (List AV)) (h:a.length=a'.length) (hl:∀ i,i<a.length→(a.getD i []).length=(a'.getD i []).length)
   (hr:∀ i j,Ren ρ ((a.getD i []).getD j .nilptr) ((a'.getD i []).getD j .nilptr)):RenV ρ (.rw T sz a) (.rw T sz a')
theorem RenV.on {ρ:Nat→Option Nat} {v v':VS} (h:RenV ρ v v'):v.on↔v'.on:=by cases h<;>rfl
theorem Even.ren {sz:Nat} {a a':List (List AV)} (h:a.length=a'.length) (hl:∀ i,i<a.length→(a.getD i []).length=(a'.getD i []).length) (he:Even sz a):Even sz a':=by
 intro e hm
 obtain ⟨i,hi,rfl⟩:=List.mem_iff_getElem.1 hm
 have h1:=hl i wa
 have h2:=Q2 he (show i<a.length by omega)
 simp only [List.getD,List.getElem?_eq_getElem hi,Option.getD_some] at h1 h2
 omega
theorem Holds.ren {E E':Ent} {w:World} {A A':Nat→Option Nat} {I:Nat→Prop} {ρ:Nat→Option Nat} {x y:Nat} {v v':VS} (h:Holds E w A I x v) (r:RenV ρ v v')
  (hA:∀ x y b,ρ x=some y→A x=some b→A' y=some b) (hxy:A' y=A x) (ho:∀ b,v.on→A x=some b→(E.own b∨E.w0.heap.size≤b)→(E'.own b∨E'.w0.heap.size≤b)):Holds E' w A' I y v':=by
 cases r with
 | fresh=>exact hxy.trans h
 | dead=>trivial
 | live T a a' hl hr=>
  obtain ⟨b,arr,h1,h2,h3,h4,h5,h6⟩:=h
  exact ⟨b,arr,hxy.trans h1,h2,wa,fun i hi=>(h4 i wa).ren hA _ (hr i),h5,ho b trivial h1 h6⟩
 | rw T sz a a' hl hll hr=>
  obtain ⟨b,arr,h1,h2,h3,h4,h5,h6,h7⟩:=h
  exact ⟨b,arr,hxy.trans h1,h2,h3.ren hl hll,by rw [← hl]; exact h4,fun i j hi hj=>(h5 i j wa hj).ren hA _ (hr i j),h6,ho b trivial h1 h7⟩
theorem Holds.ren_back {E E':Ent} {w:World} {A A':Nat→Option Nat} {I:Nat→Prop} {ρ:Nat→Option Nat} {x y:Nat} {v v':VS} (h:Holds E w A' I y v') (r:RenV ρ v v')
  (hA:∀ x y b,ρ x=some y→A' y=some b→A x=some b) (hxy:A x=A' y) (ho:∀ b,v.on→A x=some b→(E'.own b∨E'.w0.heap.size≤b)):Holds E' w A I x v:=by
 cases r with
 | fresh=>exact hxy.trans h
 | dead=>trivial
 | live T a a' hl hr=>
  obtain ⟨b,arr,h1,h2,h3,h4,h5,h6⟩:=h
  exact ⟨b,arr,hxy.trans h1,h2,wa,fun i hi=>(h4 i wa).ren_back hA _ (hr i),h5,ho b trivial (hxy.trans h1)⟩
 | rw T sz a a' hl hll hr=>
  obtain ⟨b,arr,h1,h2,h3,h4,h5,h6,h7⟩:=h
  exact ⟨b,arr,hxy.trans h1,h2,h3.ren hl.symm (fun i hi=>(hll i wa).symm),by rw [hl]; exact h4,fun i j hi hj=>(h5 i j wa hj).ren_back hA _ (hr i j),h6,ho b trivial (hxy.trans h1)⟩
def nsO (ns:List Nat):Nat→Option Nat:=fun i=>ns[i]?
section
variable {P:Program} {ops:Array Oper} {o:Oper} {N:Nat} {s:St}
def zipW:List Nat→List VS→List (Nat × VS)
 | n :: ns,v :: vs=>(n,v) :: zipW ns vs
 | _,_=>[]
theorem zwK (V:Nat→VS):∀ (ns:List Nat) (vs:List VS),ns.length=vs.length→ns.Nodup→(∀ y,y ∉ ns→updL V (zipW ns vs) y=V y)∧∀ (i n:Nat) (v:VS),ns[i]? = some n→vs[i]? = some v→updL V (zipW ns vs) n=v:=by
 intro ns
 induction ns with
 | nil=>intro vs _ _; cases vs<;>exact ⟨fun _ _=>rfl,fun i n v h=>by simp at h⟩
 | cons m ns ih=>
  intro vs h hnd
  cases vs with
  | nil=>simp at h
  | cons u vs=>
   obtain ⟨h1,h2⟩:=ih vs (by simpa using h) (List.nodup_cons.1 hnd).2
   have hm:=(List.nodup_cons.1 hnd).1
   refine ⟨fun y hy=>?_,fun i n v hn hv=>?_⟩
   ·simp only [zipW,updL]
    rw [qn _ _ (fun e=>hy (List.mem_cons.2 (.inl e)))]
    exact h1 y fun k=>hy (List.mem_cons_of_mem _ k)
   ·simp only [zipW,updL]
    cases i with
    | zero=>simp at hn hv; subst hn hv; exact zT _ _ _
    | succ i=>
     simp at hn hv
     have hne:n≠m:=fun e=>hm (e ▸ List.mem_of_getElem? hn)
     rw [qn _ _ hne]
     exact h2 i n v hn hv
theorem CallsIn.anyRound {F:Fence} {n:Nat} {P:Program} {f:FuncId} {args:Array Value} {w:World} {R:Ending→World→Prop} (h:CallsIn F n P f args w R) (ro:Option Nat):CallsIn { F with round:=ro } n P f args w R:=h
theorem zwL {E:Ent} {s':St} {a:Act} {w:World} {A:Nat→Option Nat} {I:Nat→Prop} (c:Con E N s' a w A I) {rs:List Nat} {d:Option Nat} (hdl:∀ t,d=some t→t<N)
  (Thing:(Ending→World→Prop)→Prop) (hmono:∀ R R':Ending→World→Prop,(∀ e w,R e w→R' e w)→Thing R→Thing R')
  (all args0:List AV) (vals:Array Value) (V0 V1:Nat→VS) (r0 r:AV) (ns:List Nat) (m:Nat) (W:List VS)
  (hsV:∀ (i n:Nat),ns[i]? = some n→s'.V n=s.V n) (hvals:∀ i,i<all.length→Rep w A I (all.getD i .nilptr) (vals.getD i undef))
  (hc:∀ A0,(∀ i n,i<m→ns[i]? = some n→A0 i=A n)→(∀ i,i<args0.length→Rep w A0 I (args0.getD i .nilptr) (vals.getD i undef))→ConV ⟨w,A0,I,Z9 V0 A0,[],none,trivial⟩ V0 w A0 I→
   Thing fun e w'=>∃ v A' I',e = .returned v∧Rep w' A' I' r0 v∧ConV ⟨w,A0,I,Z9 V0 A0,[],none,trivial⟩ V1 w' A' I'∧Frm ⟨w,A0,I,Z9 V0 A0,[],none,trivial⟩ w' A' I')
  (hal:args0.length=all.length) (ha:∀ i,Ren (nsO ns) (args0.getD i .nilptr) (all.getD i .nilptr))
  (hm:m≤ns.length) (hnd:ns.Nodup) (hV0:∀ i n,i<m→ns[i]? = some n→RenV (nsO ns) (V0 i) (s.V n)) (hVon:∀ i,i<m→(V0 i).on) (hV0':∀ i,m≤i→V0 i = .fresh) (hnew:∀ i n,m≤i→ns[i]? = some n→s.V n = .fresh)
  (hWl:ns.length=W.length) (hV1:∀ i v,W[i]? = some v→RenV (nsO ns) (V1 i) v) (hr:Ren (nsO ns) r0 r) :
  Thing fun e w'=>∃ v A' I',e = .returned v∧Con E N ((⟨rs,d,some r,ns,zipW ns W⟩:Ev).patch s') (a.put d v) w' A' I'∧∀ b,I' b→I b∨(∃ y,(s'.V y).on∧A y=some b)∨w.heap.size≤b:=by
 let A0:Nat→Option Nat:=fun i=>if i<m then (ns[i]?).bind A else none
 have hA0:∀ x y b,nsO ns x=some y→A y=some b→A0 x=some b:=by
  intro x y b hxy hb
  by_cases hxm:x<m
  ·simp only [A0,wc hxm]; rw [show ns[x]? = some y from hxy]; exact hb
  ·have:=c.hv y
   rw [hsV x y hxy,hnew x y wa hxy] at this
   rw [show A y=none from this] at hb; cases hb
 have hown:∀ b,Z9 V0 A0 b→∃ y,(s'.V y).on∧A y=some b:=by
  rintro b ⟨x,hon,hb⟩
  by_cases hxm:x<m
  ·simp only [A0,wc hxm] at hb
   obtain ⟨y,hy,hyb⟩:=Option.bind_eq_some_iff.1 hb
   exact ⟨y,by rw [hsV x y hy]; exact (hV0 x y hxm hy).on.1 hon,hyb⟩
  ·rw [hV0' x wa] at hon; exact hon.elim
 have hcv:ConV ⟨w,A0,I,Z9 V0 A0,[],none,trivial⟩ V0 w A0 I:=by
  refine ⟨fun x=>?_,fun x y b hx hy hxb hyb=>?_,c.imm⟩
  ·by_cases hxm:x<m
   ·obtain ⟨n,hn⟩:∃ n,ns[x]? = some n:=⟨ns[x],List.getElem?_eq_getElem wa⟩
    have hh:=c.hv n
    rw [hsV x n hn] at hh
    exact hh.ren_back (hV0 x n hxm hn) hA0 (by simp [A0,hxm,hn]) fun b hon hb=>.inl ⟨x,hon,hb⟩
   ·rw [hV0' x wa]; show A0 x=none; simp [A0,hxm]
  ·have hxm:x<m:=Decidable.byContradiction fun h=>by rw [hV0' x wa] at hx; exact hx
   have hym:y<m:=Decidable.byContradiction fun h=>by rw [hV0' y wa] at hy; exact hy
   simp only [A0,wc hxm] at hxb
   simp only [A0,wc hym] at hyb
   obtain ⟨nx,hnx,hxb⟩:=Option.bind_eq_some_iff.1 hxb
   obtain ⟨ny,hny,hyb⟩:=Option.bind_eq_some_iff.1 hyb
   have:=c.inj nx ny b (by rw [hsV x nx hnx]; exact (hV0 x nx hxm hnx).on.1 hx) (by rw [hsV y ny hny]; exact (hV0 y ny hym hny).on.1 hy) hxb hyb
   subst this
   have hxl:x<ns.length:=wa
   have hyl:y<ns.length:=wa
   rw [List.getElem?_eq_getElem hxl] at hnx
   rw [List.getElem?_eq_getElem hyl] at hny
   exact (List.getElem_inj hnd).1 ((Option.some.inj hnx).trans (Option.some.inj hny).symm)
 have hcall:=hc A0 (fun i n hi hn=>by simp only [A0,wc hi,hn,Option.bind_some]) (fun i hi=>(hvals i wa).ren_back hA0 _ (ha i)) hcv
 refine hmono _ _ ?_ hcall
 rintro e w' ⟨v,A1,I',rfl,hrv,cv1,fm⟩
 let A':Nat→Option Nat:=fun y=>match A y with | some b=>some b | none=>(ns.findIdx? (· == y)).bind fun i=>if m≤i then A1 i else none
 have hidx:∀ (i n:Nat),ns[i]? = some n→ns.findIdx? (· == n)=some i:=by
  intro i n hn
  have hl:i<ns.length:=(List.getElem?_eq_some_iff.1 hn).1
  have hne:ns[i]=n:=(List.getElem?_eq_some_iff.1 hn).2
  rw [List.findIdx?_eq_some_iff_getElem]
  refine ⟨hl,by simp [hne],fun j hj=>?_⟩
  simp only [Bool.not_eq_true,beq_eq_false_iff_ne,ne_eq]
  intro h
  have:=(List.getElem_inj hnd).1 (h.trans hne.symm)
  omega
 have hAns:∀ (i n:Nat),ns[i]? = some n→A' n=A1 i:=by
  intro i n hn
  by_cases him:i<m
  ·obtain ⟨b,hAn⟩:∃ b,A n=some b:=by
    have h1:=c.hv n
    have h2:(s'.V n).on:=by rw [hsV i n hn]; exact (hV0 i n him hn).on.1 (hVon i him)
    generalize s'.V n=u at h1 h2
    cases u with
    | fresh=>exact h2.elim
    | dead=>exact h2.elim
    | live T cs=>obtain ⟨b,arr,h,_⟩:=h1; exact ⟨b,h⟩
    | rw T sz els=>obtain ⟨b,arr,h,_⟩:=h1; exact ⟨b,h⟩
   have h1:A0 i=some b:=by simp [A0,him,hn,hAn]
   simp only [A',hAn]
   exact (fm.AA i b h1).symm
  ·have hAn:A n=none:=by
    have:=c.hv n
    rw [hsV i n hn,hnew i n wa hn] at this
    exact this
   simp only [A',hAn,hidx i n hn,Option.bind_some,wc (Nat.le_of_not_lt him)]
 have hAout:∀ y,y ∉ ns→A' y=A y:=by
  intro y hy
  have:ns.findIdx? (· == y)=none:=by
   rw [List.findIdx?_eq_none_iff]
   intro x hx
   simp only [beq_eq_false_iff_ne,ne_eq]
   exact fun e=>hy (e ▸ hx)
  simp only [A',this,Option.bind_none]
  cases A y<;>rfl
 have hblk:∀ y b,(s'.V y).on→A y=some b→b<w.heap.size∧¬I b∧(E.own b∨E.w0.heap.size≤b):=fun y b hon hb=>zgV (c.hv y) hon hb
 have hmemO:∀ y b,(s'.V y).on→A y=some b→Z9 V0 A0 b→y ∈ ns:=by
  rintro y b hon hb ⟨x,hxon,hxb⟩
  have hxm:x<m:=Decidable.byContradiction fun h=>by rw [hV0' x wa] at hxon; exact hxon
  simp only [A0,wc hxm] at hxb
  obtain ⟨n,hn,hnb⟩:=Option.bind_eq_some_iff.1 hxb
  have:=c.inj y n b hon (by rw [hsV x n hn]; exact (hV0 x n hxm hn).on.1 hxon) hb hnb
  subst this
  exact List.mem_of_getElem? hn
 have hownE:∀ b,Z9 V0 A0 b→b<w.heap.size∧¬I b∧(E.own b∨E.w0.heap.size≤b):=fun b hb=>let ⟨y,hon,hyb⟩:=hown b hb; hblk y b hon hyb
 have hup:Up E w A I w' A' I':={
  shp:=fm.shp
  immk:=fun b hb=>fm.keep b (c.imm b hb) fun h=>(hownE b h).2.1 hb
  size:=fm.size,os:=fm.os,out:=fm.out,tape:=fm.tape
  hA:=fun x b hb=>by simp only [A',hb]
  hI:=fm.IA
  keep:=fun b hb hno=>fm.keep b (Nat.lt_of_lt_of_le hb c.frm.size) fun h=>by rcases (hownE b h).2.2 with h | h; exact hno h; omega
  IO:=fun b hb=>by
   rcases fm.IO b hb with h | h | h
   ·exact .inl h
   ·exact .inr (hownE b h).2.2
   ·exact .inr (.inr (Nat.le_trans c.frm.size h)) }
 have hren:∀ x y b,nsO ns x=some y→A1 x=some b→A' y=some b:=fun x y b hxy hb=>(hAns x y hxy).trans hb
 have hz:=zwK s'.V ns W hWl hnd
 have hzi:∀ (i n:Nat),ns[i]? = some n→∃ v,W[i]? = some v∧updL s'.V (zipW ns W) n=v:=by
  intro i n hn
  have hl:i<W.length:=by have:=(List.getElem?_eq_some_iff.1 hn).1; omega
  exact ⟨W[i],List.getElem?_eq_getElem hl,hz.2 i n _ hn (List.getElem?_eq_getElem hl)⟩
 have hon1:∀ (i:Nat) (v:VS) (b:Nat),W[i]? = some v→v.on→A1 i=some b→b<w'.heap.size∧¬I' b∧(Z9 V0 A0 b∨w.heap.size≤b):=by
  intro i v b hv hon hb
  exact zgV (cv1.hv i) ((hV1 i v hv).on.2 hon) hb
 refine ⟨v,A',I',rfl,?_,fun b hb=>(fm.IO b hb).imp id fun h=>h.imp (hown b) id⟩
 refine c.next hup _ ⟨fun y=>?_,fun x y b hx hy hxb hyb=>?_,cv1.imm⟩ d (some r) v hdl fun z hz'=>by cases hz'; exact hrv.ren hren _ hr
 ·by_cases hy:y ∈ ns
  ·obtain ⟨i,hil,rfl⟩:=List.mem_iff_getElem.1 hy
   have hn:ns[i]? = some ns[i]:=List.getElem?_eq_getElem hil
   obtain ⟨v,hv,he⟩:=hzi i _ hn
   rw [he]
   refine (cv1.hv i).ren (hV1 i v hv) hren (hAns i _ hn) fun b _ _ h=>?_
   rcases h with h | h
   ·exact (hownE b h).2.2
   ·exact .inr (Nat.le_trans c.frm.size h)
  ·rw [hz.1 y hy]
   refine (c.hv y).up hup (fun h=>(hAout y hy).trans h) fun b hon hb=>?_
   have h0:=hblk y b hon hb
   have hno:¬Z9 V0 A0 b:=fun h=>hy (hmemO y b hon hb h)
   refine ⟨fm.keep b h0.1 hno,fun h=>?_⟩
   rcases fm.IO b h with h | h | h
   ·exact h
   ·exact absurd h hno
   ·have h1:w.heap.size≤b:=h
    have:=h0.1; omega
 ·
  have other:∀ p q c',p ∈ ns→q ∉ ns→(updL s'.V (zipW ns W) p).on→(updL s'.V (zipW ns W) q).on→A' p=some c'→A' q=some c'→False:=by
   intro p q c' hp hq hpo hqo hpc hqc
   obtain ⟨i,hil,rfl⟩:=List.mem_iff_getElem.1 hp
   have hn:ns[i]? = some ns[i]:=List.getElem?_eq_getElem hil
   obtain ⟨v,hv,he⟩:=hzi i _ hn
   rw [he] at hpo
   rw [hAns i _ hn] at hpc
   rw [hz.1 q hq] at hqo
   rw [hAout q hq] at hqc
   rcases (hon1 i v c' hv hpo hpc).2.2 with h | h
   ·exact hq (hmemO q c' hqo hqc h)
   ·have:=(hblk q c' hqo hqc).1; omega
  by_cases hxn:x ∈ ns<;>by_cases hyn:y ∈ ns
  ·obtain ⟨i,hil,rfl⟩:=List.mem_iff_getElem.1 hxn
   obtain ⟨j,hjl,rfl⟩:=List.mem_iff_getElem.1 hyn
   have hni:ns[i]? = some ns[i]:=List.getElem?_eq_getElem hil
   have hnj:ns[j]? = some ns[j]:=List.getElem?_eq_getElem hjl
   obtain ⟨v,hv,he⟩:=hzi i _ hni
   obtain ⟨u,hu,he'⟩:=hzi j _ hnj
   rw [he] at hx
   rw [he'] at hy
   rw [hAns i _ hni] at hxb
   rw [hAns j _ hnj] at hyb
   have:=cv1.inj i j b ((hV1 i v hv).on.2 hx) ((hV1 j u hu).on.2 hy) hxb hyb
   subst this; rfl
  ·exact (other x y b hxn hyn hx hy hxb hyb).elim
  ·exact (other y x b hyn hxn hy hx hyb hxb).elim
  ·rw [hz.1 x hxn] at hx
   rw [hz.1 y hyn] at hy
   rw [hAout x hxn] at hxb
   rw [hAout y hyn] at hyb
   exact c.inj x y b hx hy hxb hyb
theorem zwM (f:FuncId) (fo:Operand) (xs:Array Operand) (tys:Array TypeId) (first caps vs args0:List AV) (fn:Func) (V0 V1:Nat→VS) (r0 r:AV) (ns:List Nat) (m:Nat) (W:List VS)
  (ho:o.op = .call ⟨.value fo,xs,tys⟩) (hd:dlt o N=true) (hw:wnt ops o s.G=some true) (hf:opd s.G fo=some (.fn f first caps)) (hx:xs.toList.map (opd s.G)=vs.map some)
  (hfn:P.funcs[f]? = some fn) (hnm:(fn.name == "runtime.NumGoroutine")=false) (hbody:fn.body.isSome=true)
  (hc:ACalls P f args0 V0 r0 V1) (hal:args0.length=(first++vs++caps).length) (ha:∀ i,Ren (nsO ns) (args0.getD i .nilptr) ((first++vs++caps).getD i .nilptr))
  (hm:m≤ns.length) (hnd:ns.Nodup) (hV0:∀ i n,i<m→ns[i]? = some n→RenV (nsO ns) (V0 i) (s.V n)) (hVon:∀ i,i<m→(V0 i).on) (hV0':∀ i,m≤i→V0 i = .fresh) (hnew:∀ i n,m≤i→ns[i]? = some n→s.V n = .fresh)
  (hWl:ns.length=W.length) (hV1:∀ i v,W[i]? = some v→RenV (nsO ns) (V1 i) v) (hr:Ren (nsO ns) r0 r) :
  Snd P ops o N s ⟨gsl ops o++opr fo++xs.toList.flatMap opr,o.dst,some r,ns,zipW ns W⟩:=by
 rintro E s' hag a w ⟨A,I,c⟩ K Q hK
 have hw':wnt ops o s'.G=some true:=(zjs hag ops o fun t ht=>List.mem_append_left _ (List.mem_append_left _ ht)).trans hw
 have hf':=c.opd ((qo hag fo fun t ht=>List.mem_append_left _ (List.mem_append_right _ ht)).trans hf)
 have hsV:∀ (i n:Nat),ns[i]? = some n→s'.V n=s.V n:=fun i n h=>hag.2 n (List.mem_of_getElem? h)
 unfold wpO
 rw [c.wanted hw',wc rfl]
 generalize hq:a.eval fo=q at hf'
 cases hf' with
 | fn _ _ _ fs cs g1 g2 g3 g4=>
 have hxl:xs.size=vs.length:=by simpa using congrArg List.length hx
 have hrun:(execOp a.eval o).run P w = .ok (.enter f (fs++xs.map a.eval++cs)) w:=by
  simp [execOp,ho,resolve,hq,Deferred.ofValue,invoke,callFunc,hfn,show ¬fn.name = "runtime.NumGoroutine" by simpa using hnm,Option.isSome_iff_ne_none.1 hbody]
 have hvals:∀ i,i<(first++vs++caps).length→Rep w A I ((first++vs++caps).getD i .nilptr) ((fs++xs.map a.eval++cs).getD i undef):=by
  intro i hi
  by_cases h1:i<first.length
  ·have e1:(first++vs++caps).getD i .nilptr=first.getD i .nilptr:=by simp [List.getD,List.getElem?_append,h1]
   have e2:(fs++xs.map a.eval++cs).getD i undef=fs.getD i undef:=by simp [Array.getD_eq_getD_getElem?,Array.getElem?_append,g1,h1]
   rw [e1,e2]; exact g3 i h1
  ·by_cases h2:i<first.length+vs.length
   ·have e1:(first++vs++caps).getD i .nilptr=vs.getD (i-first.length) .nilptr:=by
     simp [List.getD,List.getElem?_append,h1,show i-first.length<vs.length by omega]
    have hi':i-first.length<xs.size:=wa
    have e2:(fs++xs.map a.eval++cs).getD i undef=a.eval xs[i-first.length]:=by
     simp [Array.getD_eq_getD_getElem?,Array.getElem?_append,g1,h1,hi']
    rw [e1,e2]
    have hk:=congrArg (fun l=>l[i-first.length]?) hx
    have hvi:i-first.length<vs.length:=wa
    simp [hi',hvi] at hk
    have e3:vs.getD (i-first.length) .nilptr=vs[i-first.length]:=by simp [List.getD,hvi]
    rw [e3]
    refine c.opd ?_
    rw [qo hag _ fun t ht=>List.mem_append_right _ (List.mem_flatMap.2 ⟨xs[i-first.length],wb,ht⟩)]
    exact hk
   ·have hi3:i-first.length-vs.length<caps.length:=by simp at hi; omega
    have e1:(first++vs++caps).getD i .nilptr=caps.getD (i-first.length-vs.length) .nilptr:=by
     simp only [List.getD]
     rw [List.append_assoc,List.getElem?_append_right wa,List.getElem?_append_right wa]
    have e2:(fs++xs.map a.eval++cs).getD i undef=cs.getD (i-first.length-vs.length) undef:=by
     simp only [Array.getD_eq_getD_getElem?]
     rw [Array.getElem?_append_right (by simp; omega)]
     congr 2; simp; omega
    rw [e1,e2]; exact g4 _ hi3
 refine ⟨fun _ _=>trivial,?_⟩
 rw [zmW hrun fun _ e=>by cases e]
 refine ⟨fun h=>(by cases h),?_⟩
 refine (CallsIn.anyRound (callsIn_wide.2 (zwL (rs:=gsl ops o++opr fo++xs.toList.flatMap opr) c (qA hd) (Calls P f (fs++xs.map a.eval++cs) w) (fun R R' h k=>k.mono h) (first++vs++caps) args0 _ V0 V1 r0 r ns m W hsV hvals
  (fun A0 _ h1 h2=>hc w A0 I _ (by simp at hal ⊢; omega) h1 h2) hal ha hm hnd hV0 hVon hV0' hnew hWl hV1 hr)) E.ro).mono ?_
 rintro e w' ⟨v,A',I',rfl,h,_⟩
 exact hK _ _ ⟨A',I',h⟩
end
end Go.Abs
