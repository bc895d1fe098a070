/- The steps in few words: what is told of an operation is reckoned by unification. -/
import Derived.Test.YtjffljhmjdljeaaGreatGammToldAbsQ
set_option linter.unusedVariables false
set_option linter.unusedSimpArgs false
namespace Go.Abs
def takeO:List AV→Nat→Option (List AV)
 | _,0=>some []
 | [],_+1=>none
 | c :: cs,n+1=>match takeO cs n with
  | none=>none
  | some l=>some (c :: l)
theorem zjR:∀ {n:Nat} {cs l:List AV},takeO cs n=some l→l=cs.take n∧n≤cs.length
 | 0,cs,l,h=>by cases cs<;>simp [takeO] at h<;>subst h<;>simp
 | n+1,[],l,h=>by simp [takeO] at h
 | n+1,c :: cs,l,h=>by
  simp only [takeO] at h
  cases h':takeO cs n with
  | none=>rw [h'] at h; cases h
  | some q=>rw [h'] at h; cases h; obtain ⟨h1,h2⟩:=zjR h'; simp [h1]; exact h2
def ldL:List AV→Nat→Nat→Option (List AV)
 | cs,0,n=>takeO cs n
 | [],_+1,_=>none
 | _ :: cs,k+1,n=>ldL cs k n
theorem zne:∀ {k n:Nat} {cs l:List AV},ldL cs k n=some l→l=(cs.drop k).take n∧k+n≤cs.length
 | 0,n,cs,l,h=>by
  have:takeO cs n=some l:=by cases cs<;>exact h
  obtain ⟨h1,h2⟩:=zjR this; simp [h1]; exact h2
 | k+1,n,[],l,h=>by simp [ldL] at h
 | k+1,n,c :: cs,l,h=>by
  obtain ⟨h1,h2⟩:=zne (k:=k) (cs:=cs) h; simp [h1]; omega
def stL:List AV→Nat→List AV→Option (List AV)
 | cs,0,[]=>some cs
 | c :: cs,0,v :: vs=>match stL cs 0 vs with
  | none=>none
  | some l=>some (v :: l)
 | [],0,_ :: _=>none
 | c :: cs,k+1,vs=>match stL cs k vs with
  | none=>none
  | some l=>some (c :: l)
 | [],_+1,_=>none
theorem zg5:∀ {k:Nat} {cs vs l:List AV},stL cs k vs=some l→l=splA cs k vs∧k+vs.length≤cs.length
 | 0,cs,[],l,h=>by
  have:l=cs:=by cases cs<;>(simp [stL] at h; first | exact h | exact h.symm)
  subst this; simp [splA]
 | 0,[],v :: vs,l,h=>by simp [stL] at h
 | 0,c :: cs,v :: vs,l,h=>by
  simp only [stL] at h
  cases h':stL cs 0 vs with
  | none=>rw [h'] at h; cases h
  | some q=>
   rw [h'] at h; cases h
   obtain ⟨h1,h2⟩:=zg5 h'
   simp [h1,splA] at h2 ⊢; omega
 | k+1,[],vs,l,h=>by simp [stL] at h
 | k+1,c :: cs,vs,l,h=>by
  simp only [stL] at h
  cases h':stL cs k vs with
  | none=>rw [h'] at h; cases h
  | some q=>
   rw [h'] at h; cases h
   obtain ⟨h1,h2⟩:=zg5 h'
   have e:k+1+vs.length=k+vs.length+1:=wa
   simp [h1,splA,e]; omega
def cellsO:AV→Option (List AV)
 | .agg l=>some l
 | .tup _=>none
 | v=>some [v]
theorem zjS {v:AV} {l:List AV} (h:cellsO v=some l):l=v.cellsOf∧v.isTup=false:=by
 cases v<;>simp [cellsO] at h<;>subst h<;>exact ⟨rfl,rfl⟩
def zdt (G:Nat→Option AV) (place:Nat→Option (Nat × Nat)):List AV→List (Nat × Operand)→Option (List AV)
 | cells,[]=>some cells
 | cells,(i,x) :: rest=>match opd G x with
  | none=>none
  | some v=>match cellsO v with
   | none=>none
   | some c=>match place i with
    | none=>none
    | some (off,size)=>match Nat.beq c.length size with
     | false=>none
     | true=>match stL cells off c with
      | none=>none
      | some cells'=>zdt G place cells' rest
theorem zjT {G:Nat→Option AV} {place:Nat→Option (Nat × Nat)} : ∀ {ps:List (Nat × Operand)} {cells r:List AV},zdt G place cells ps=some r→
  ∃ pa:List (Nat × AV),ps.map (fun p=>(p.1,opd G p.2))=pa.map (fun p=>(p.1,some p.2))∧zcg place cells pa=some r
 | [],cells,r,h=>⟨[],rfl,h⟩
 | (i,x) :: rest,cells,r,h=>by
  simp only [zdt] at h
  cases hx:opd G x with
  | none=>rw [hx] at h; cases h
  | some v=>
   rw [hx] at h; simp only at h
   cases hc:cellsO v with
   | none=>rw [hc] at h; cases h
   | some c=>
    rw [hc] at h; simp only at h
    cases hp:place i with
    | none=>rw [hp] at h; cases h
    | some os=>
     obtain ⟨off,size⟩:=os
     rw [hp] at h; simp only at h
     cases hb:Nat.beq c.length size with
     | false=>rw [hb] at h; cases h
     | true=>
      rw [hb] at h; simp only at h
      cases hs:stL cells off c with
      | none=>rw [hs] at h; cases h
      | some cells'=>
       rw [hs] at h
       obtain ⟨pa,h1,h2⟩:=zjT h
       obtain ⟨k1,k2⟩:=zjS hc
       obtain ⟨k3,k4⟩:=zg5 hs
       have k5:=Nat.eq_of_beq_eq_true hb
       refine ⟨(i,v) :: pa,by simp [hx,h1],?_⟩
       simp only [zcg,hp]
       rw [k1] at k4 k5 k3
       rw [wc ⟨k5,k4,k2⟩,← k3]; exact h2
section
variable {P:Program} {ops:Array Oper} {o:Oper} {N:Nat} {s:St}
theorem mv {x:Operand} {v:AV} (h:(o.op,dlt o N,wnt ops o s.G,opd s.G x)=(.move x,true,some true,some v)):Snd P ops o N s ⟨gsl ops o++[x].flatMap opr,o.dst,some v,[],[]⟩:=by
 simp only [Prod.mk.injEq] at h; exact zgY x v h.1 h.2.1 h.2.2.1 h.2.2.2
theorem sg {x:Operand} {v:AV} (h:(o.op,dlt o N,wnt ops o s.G,opd s.G x)=(.assign x,true,some true,some v)):Snd P ops o N s ⟨gsl ops o++[x].flatMap opr,o.dst,some v,[],[]⟩:=by
 simp only [Prod.mk.injEq] at h; exact zdq x v h.1 h.2.1 h.2.2.1 h.2.2.2
theorem un {op:UnOp} {T:TypeId} {x:Operand} {u v:AV} (h:(o.op,dlt o N,wnt ops o s.G,opd s.G x,zjx op u)=(.unOp op T x,true,some true,some u,some v)):Snd P ops o N s ⟨gsl ops o++[x].flatMap opr,o.dst,some v,[],[]⟩:=by
 simp only [Prod.mk.injEq] at h; exact zqL op T x u v h.1 h.2.1 h.2.2.1 h.2.2.2.1 h.2.2.2.2
theorem cv {T U:TypeId} {x:Operand} {k q:IntKind} {n:Int} {d:TypeDesc} (hT:P.underlying T=some d) (hU:P.underlying U=some (.int q)) (h:(o.op,dlt o N,wnt ops o s.G,opd s.G x)=(.convert T U x,true,some true,some (.int k n))) :
  Snd P ops o N s ⟨gsl ops o++[x].flatMap opr,o.dst,some (.int q (q.wrap n)),[],[]⟩:=by
 simp only [Prod.mk.injEq] at h; exact zqM T U x k q n d h.1 hT hU h.2.1 h.2.2.1 h.2.2.2
theorem bx (z:Nat) {T:TypeId} {y:Operand} {v:AV} {cs:List AV} (h:(o.op,dlt o N,wnt ops o s.G,s.V z,opd s.G y,cellsO v)=(.box T y,true,some true,.fresh,some v,some cs)) :
  Snd P ops o N s ⟨gsl ops o++[y].flatMap opr,o.dst,some (.ptr z 0),[z],[(z,.live T cs)]⟩:=by
 simp only [Prod.mk.injEq] at h
 obtain ⟨k1,k2⟩:=zjS h.2.2.2.2.2
 rw [k1]
 exact zqR T y v z h.1 h.2.1 h.2.2.1 h.2.2.2.1 h.2.2.2.2.1 (AV.not_tup k2)
theorem al (z:Nat) {T:TypeId} {zs:List AV} (hz:qR P T zs) (h:(o.op,dlt o N,wnt ops o s.G,s.V z)=(.alloc T,true,some true,.fresh)) :
  Snd P ops o N s ⟨gsl ops o,o.dst,some (.ptr z 0),[z],[(z,.live T zs)]⟩:=by
 simp only [Prod.mk.injEq] at h; exact zqQ T zs z h.1 hz h.2.1 h.2.2.1 h.2.2.2
theorem la {T:TypeId} {y:Operand} {x off n:Nat} {U:TypeId} {cs l:List AV} (hT:Agg P T n) (h:(o.op,dlt o N,wnt ops o s.G,opd s.G y,s.V x,ldL cs off n)=(.load T y,true,some true,some (.ptr x off),.live U cs,some l)) :
  Snd P ops o N s ⟨gsl ops o++[y].flatMap opr,o.dst,some (.agg l),[x],[]⟩:=by
 simp only [Prod.mk.injEq] at h
 obtain ⟨k1,k2⟩:=zne h.2.2.2.2.2
 rw [k1]
 exact zws T y x off n U cs h.1 hT h.2.1 h.2.2.1 h.2.2.2.1 h.2.2.2.2.1 k2
theorem ls {T:TypeId} {y:Operand} {x off:Nat} {U:TypeId} {cs:List AV} {v:AV} (hT:Sca P T) (h:(o.op,dlt o N,wnt ops o s.G,opd s.G y,s.V x,cs[off]?)=(.load T y,true,some true,some (.ptr x off),.live U cs,some v)) :
  Snd P ops o N s ⟨gsl ops o++[y].flatMap opr,o.dst,some v,[x],[]⟩:=by
 simp only [Prod.mk.injEq] at h
 obtain ⟨k1,k2⟩:=List.getElem?_eq_some_iff.1 h.2.2.2.2.2
 have:=zwt T y x off U cs h.1 hT h.2.1 h.2.2.1 h.2.2.2.1 h.2.2.2.2.1 k1
 have e:ldS cs off=v:=by unfold ldS; simp [List.getD,h.2.2.2.2.2]
 rw [e] at this; exact this
theorem lai {T:TypeId} {y:Operand} {n:Nat} {cs l:List AV} (hT:Agg P T n) (h:(o.op,dlt o N,wnt ops o s.G,opd s.G y,takeO cs n)=(.load T y,true,some true,some (.iptr cs),some l)) :
  Snd P ops o N s ⟨gsl ops o++[y].flatMap opr,o.dst,some (.agg l),[],[]⟩:=by
 simp only [Prod.mk.injEq] at h
 obtain ⟨k1,k2⟩:=zjR h.2.2.2.2
 rw [k1]
 exact zwu T y n cs h.1 hT h.2.1 h.2.2.1 h.2.2.2.1 k2
theorem lsi {T:TypeId} {y:Operand} {cs:List AV} {v:AV} (hT:Sca P T) (h:(o.op,dlt o N,wnt ops o s.G,opd s.G y,cs[0]?)=(.load T y,true,some true,some (.iptr cs),some v)) :
  Snd P ops o N s ⟨gsl ops o++[y].flatMap opr,o.dst,some v,[],[]⟩:=by
 simp only [Prod.mk.injEq] at h
 obtain ⟨k1,k2⟩:=List.getElem?_eq_some_iff.1 h.2.2.2.2
 have:=zwv T y cs h.1 hT h.2.1 h.2.2.1 h.2.2.2.1 k1
 have e:ldS cs 0=v:=by unfold ldS; simp [List.getD,h.2.2.2.2]
 rw [e] at this; exact this
theorem sa {T:TypeId} {y z:Operand} {x off n:Nat} {U:TypeId} {cs l r:List AV} (hT:Agg P T n) (h:(o.op,o.dst,wnt ops o s.G,opd s.G y,opd s.G z,s.V x,Nat.beq l.length n,l.all AV.one,stL cs off l)=(.store T y z,none,some true,some (.ptr x off),some (.agg l),.live U cs,true,true,some r)) :
  Snd P ops o N s ⟨gsl ops o++[y,z].flatMap opr,none,none,[x],[(x,.live U r)]⟩:=by
 simp only [Prod.mk.injEq] at h
 obtain ⟨h1,h2,h3,h4,h5,h6,h7,h8,h9⟩:=h
 obtain ⟨k1,k2⟩:=zg5 h9
 rw [k1]
 have h7':=Nat.eq_of_beq_eq_true h7
 exact zqT T y z x off n U cs (.agg l) h1 h2 (.inl hT) h3 h4 h5 h6 h7' h8 (fun _=>⟨l,rfl⟩) (fun k=>(zjG hT k).elim) (by rw [← h7']; exact k2)
theorem ss {T:TypeId} {y z:Operand} {x off:Nat} {U:TypeId} {cs r:List AV} {v:AV} (hT:Sca P T) (h:(o.op,o.dst,wnt ops o s.G,opd s.G y,opd s.G z,s.V x,v.one,stL cs off [v])=(.store T y z,none,some true,some (.ptr x off),some v,.live U cs,true,some r)) :
  Snd P ops o N s ⟨gsl ops o++[y,z].flatMap opr,none,none,[x],[(x,.live U r)]⟩:=by
 simp only [Prod.mk.injEq] at h
 obtain ⟨h1,h2,h3,h4,h5,h6,h7,h8⟩:=h
 obtain ⟨k1,k2⟩:=zg5 h8
 have e:v.cellsOf=[v]:=by cases v<;>first | rfl | cases h7
 rw [k1,← e]
 exact zqT T y z x off 1 U cs v h1 h2 (.inr ⟨rfl,hT⟩) h3 h4 h5 h6 (by rw [e]; rfl) (by rw [e]; simp [h7]) (fun k=>(zjG k hT).elim) (fun _=>h7) k2
theorem bd {T:TypeId} {parts:Array (Nat × Operand)} {zs:List AV} {pl:List (Nat × Nat)} {cs:List AV} (hz:qR P T zs) (hpl:zg0 P T pl) (h:(o.op,dlt o N,wnt ops o s.G,zdt s.G (fun i=>pl[i]?) zs parts.toList)=(.build T parts,true,some true,some cs)) :
  Snd P ops o N s ⟨gsl ops o++(parts.toList.map (·.2)).flatMap opr,o.dst,some (.agg cs),[],[]⟩:=by
 simp only [Prod.mk.injEq] at h
 obtain ⟨pa,h1,h2⟩:=zjT h.2.2.2
 exact zwA T parts zs pl pa cs h.1 hz hpl h.2.1 h.2.2.1 h1 h2
theorem ln {α:Type} {K:Kd α} {T e:Nat} {x:Operand} {l:List α} (hT:P.underlying T=some (.slice e)) (h:(o.op,dlt o N,wnt ops o s.G,opd s.G x)=(.call ⟨.builtin .len,#[x],#[T]⟩,true,some true,some (slK K l))) :
  Snd P ops o N s ⟨gsl ops o++[x].flatMap opr,o.dst,some (.int .i64 l.length),[],[]⟩:=by
 simp only [Prod.mk.injEq] at h; exact zrd K T e x l h.1 hT h.2.1 h.2.2.1 h.2.2.2
def ZP (G:Nat→Option AV):List Operand→Option (List AV)
 | []=>some []
 | x :: xs=>match opd G x with
  | none=>none
  | some v=>match ZP G xs with
   | none=>none
   | some vs=>some (v :: vs)
theorem zg6 {G:Nat→Option AV} : ∀ {xs:List Operand} {vs:List AV},ZP G xs=some vs→xs.map (opd G)=vs.map some
 | [],vs,h=>by simp [ZP] at h; subst h; rfl
 | x :: xs,vs,h=>by
  simp only [ZP] at h
  cases h1:opd G x with
  | none=>rw [h1] at h; cases h
  | some v=>
   rw [h1] at h; simp only at h
   cases h2:ZP G xs with
   | none=>rw [h2] at h; cases h
   | some q=>rw [h2] at h; cases h; simp [h1,zg6 h2]
structure Pur (P:Program) (f:FuncId) (args:List AV) (r:AV):Prop where
 nm:∃ fn,P.funcs[f]? = some fn∧(fn.name == "runtime.NumGoroutine")=false∧fn.body.isSome=true
 c:ACalls P f args (lw []) r (ld [])
 a:∀ ρ,RenL ρ args args
 r:∀ ρ,Ren ρ r r
theorem c0 {f:FuncId} {fo:Operand} {xs:Array Operand} {tys:Array TypeId} {first caps vs args:List AV} {r:AV} (hc:Pur P f args r)
  (h:(o.op,dlt o N,wnt ops o s.G,opd s.G fo,ZP s.G xs.toList,first++vs++caps)=(.call ⟨.value fo,xs,tys⟩,true,some true,some (.fn f first caps),some vs,args)) :
  Snd P ops o N s ⟨gsl ops o++opr fo++xs.toList.flatMap opr,o.dst,some r,[],[]⟩:=by
 simp only [Prod.mk.injEq] at h
 obtain ⟨h1,h2,h3,h4,h5,h6⟩:=h
 obtain ⟨fn,k1,k2,k3⟩:=hc.nm
 have:=zrc (P:=P) (ops:=ops) (o:=o) (N:=N) (s:=s) (f:=f) (fo:=fo) (xs:=xs) (tys:=tys) (first:=first) (caps:=caps) vs args fn [] [] r r [] [] [] [] h1 h2 h3 h4 (zg6 h5) k1 k2 k3 hc.c (by rw [h6]; exact hc.a _) .nil rfl zw7 rfl .nil (hc.r _) .nil
 exact this
end
section walk
variable {P:Program} {E:Ent} {N:Nat} {R:Type} {o:Option R} {Q:R→Exit→Act→World→Prop} {L:List (Nat × Option AV)} {M:List (Nat × VS)}
theorem TR.p {ops:Array Oper} {op:Oper} {l:List Oper} {rs rv:List Nat} {d:Nat} {v:AV} (hs:Snd P ops op N (mkS L M) ⟨rs,some d,some v,rv,[]⟩) (h:TR P E N ops o l (mkS ((d,some v) :: L) M) Q):TR P E N ops o (op :: l) (mkS L M) Q:=TR.op hs (by rw [Zb]; exact h)
theorem TR.w {ops:Array Oper} {op:Oper} {l:List Oper} {rs rv:List Nat} {d x:Nat} {v:AV} {c:VS} (hs:Snd P ops op N (mkS L M) ⟨rs,some d,some v,rv,[(x,c)]⟩) (h:TR P E N ops o l (mkS ((d,some v) :: L) ((x,c) :: M)) Q):TR P E N ops o (op :: l) (mkS L M) Q:=TR.op hs (by rw [Zb]; exact h)
theorem TR.n {ops:Array Oper} {op:Oper} {l:List Oper} {rs rv:List Nat} {x:Nat} {c:VS} (hs:Snd P ops op N (mkS L M) ⟨rs,none,none,rv,[(x,c)]⟩) (h:TR P E N ops o l (mkS L ((x,c) :: M)) Q):TR P E N ops o (op :: l) (mkS L M) Q:=TR.op hs (by rw [Zb]; exact h)
theorem TR.k {ops:Array Oper} {op:Oper} {l:List Oper} {d:Nat} (hk:(dlt op N,wnt ops op (lk L),op.dst)=(true,some false,some d)) (h:TR P E N ops o l (mkS ((d,some (.tup [])) :: L) M) Q):TR P E N ops o (op :: l) (mkS L M) Q:=by
 simp only [Prod.mk.injEq] at hk; exact TR.sk d hk.1 hk.2.1 hk.2.2 h
theorem TD.p {ops:List Oper} {op:Oper} {l:List Oper} {acc:List Ev} {rs rv:List Nat} {d:Nat} {v:AV} (hs:Snd P ops.toArray op N (mkS L M) ⟨rs,some d,some v,rv,[]⟩) (h:TD P E N ops o l (mkS ((d,some v) :: L) M) (acc++[⟨rs,some d,some v,rv,[]⟩]) Q):TD P E N ops o (op :: l) (mkS L M) acc Q:=TD.op hs (by rw [Zb]; exact h)
theorem TD.w {ops:List Oper} {op:Oper} {l:List Oper} {acc:List Ev} {rs rv:List Nat} {d x:Nat} {v:AV} {c:VS} (hs:Snd P ops.toArray op N (mkS L M) ⟨rs,some d,some v,rv,[(x,c)]⟩) (h:TD P E N ops o l (mkS ((d,some v) :: L) ((x,c) :: M)) (acc++[⟨rs,some d,some v,rv,[(x,c)]⟩]) Q):TD P E N ops o (op :: l) (mkS L M) acc Q:=TD.op hs (by rw [Zb]; exact h)
theorem TD.n {ops:List Oper} {op:Oper} {l:List Oper} {acc:List Ev} {rs rv:List Nat} {x:Nat} {c:VS} (hs:Snd P ops.toArray op N (mkS L M) ⟨rs,none,none,rv,[(x,c)]⟩) (h:TD P E N ops o l (mkS L ((x,c) :: M)) (acc++[⟨rs,none,none,rv,[(x,c)]⟩]) Q):TD P E N ops o (op :: l) (mkS L M) acc Q:=TD.op hs (by rw [Zb]; exact h)
theorem TD.k {ops:List Oper} {op:Oper} {l:List Oper} {acc:List Ev} {d:Nat} (hk:(dlt op N,wnt ops.toArray op (lk L),op.dst)=(true,some false,some d)) (h:TD P E N ops o l (mkS ((d,some (.tup [])) :: L) M) (acc++[⟨gsl ops.toArray op,some d,some (.tup []),[],[]⟩]) Q):TD P E N ops o (op :: l) (mkS L M) acc Q:=by
 simp only [Prod.mk.injEq] at hk; exact TD.sk d hk.1 hk.2.1 hk.2.2 h
end walk
end Go.Abs
