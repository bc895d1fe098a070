/- From how a row reads its arguments to what the walk asks of them. -/
import Derived.Test.YtjffljhmjdljeaaGreatGammToldAbsS
import Derived.ChangeArms
import Derived.Below
import Derived.WideShapes
set_option linter.unusedVariables false
set_option linter.unusedSimpArgs false
namespace Go.Abs
def Old (w:World) (b:Nat):Prop:=b<w.heap.size
def Opn (P:Program) (T:TypeId) {α:Type} (K:Kd α) (good:α→Prop):Prop:=
 ∀ (H:Type) (enc:TypeId × Value→H) (w:World) (fuel:Nat) (cs:List Value) (x:DataW H × List MemPlace),DataW.trod enc P w 0 (fun _=>true) true fuel T cs=some x→
  ∃ a,good a∧cs.length=K.sz∧∀ j,j<K.sz→Rep w (fun _=>none) (Old w) ((K.enc a).getD j .nilptr) (cs.getD j undef)
theorem zxo {α:Type} (d:α) (p:Nat→α→Prop):∀ n,(∀ i,i<n→∃ q,p i q)→∃ l:List α,l.length=n∧∀ i,i<n→p i (l.getD i d):=by
 intro n
 induction n with
 | zero=>intro _; exact ⟨[],rfl,fun i h=>wa⟩
 | succ n ih=>
  intro h
  obtain ⟨l,h1,h2⟩:=ih fun i hi=>h i wa
  obtain ⟨q,hq⟩:=h n wa
  refine ⟨l++[q],by simp [h1],fun i hi=>?_⟩
  by_cases hin:i<n
  ·have e:(l++[q]).getD i d=l.getD i d:=by simp [List.getD,List.getElem?_append_left (show i<l.length by omega)]
   rw [e]; exact h2 i hin
  ·have hi':i=l.length:=wa
   have e:(l++[q]).getD i d=q:=by rw [hi']; simp [List.getD]
   rw [e,hi',h1]; exact hq
section
variable {P:Program} {T:TypeId}
theorem zro {k:IntKind} (hT:P.underlying T=some (.int k)):Opn P T (kInt k) (fun n=>(Lit.int k n).wf=true):=by
 intro H enc w fuel cs x h
 obtain ⟨n,rfl,_,hw⟩:=DataW.trod_int hT h
 refine ⟨n,hw,rfl,fun j hj=>?_⟩
 have:j=0:=by simp [kInt] at hj; exact hj
 subst this; exact .int k n
theorem zxp (hT:P.underlying T=some .bool):Opn P T zq9 (fun _=>True):=by
 intro H enc w fuel cs x h
 obtain ⟨n,rfl,_⟩:=DataW.trod_bool hT h
 refine ⟨n,trivial,rfl,fun j hj=>?_⟩
 have:j=0:=by simp [zq9] at hj; exact hj
 subst this; exact .bool n
theorem zxq {α:Type} {K:Kd α} {good:α→Prop} {e:TypeId} (hT:P.underlying T=some (.slice e)) (he:Opn P e K good) (hc:P.cellsOf e=K.sz) (h0:0<K.sz):Opn P T (kSl K) (fun l=>l.length≤maxLen∧∀ a ∈ l,good a):=by
 intro H enc w fuel cs x h
 rcases DataW.trod_slice hT h with ⟨rfl,_⟩ | ⟨a,len,cap,elems,rest,n,rfl,rfl,_,_,hl,hm,hlen,hel,_,_⟩
 ·refine ⟨[],⟨Nat.zero_le _,fun a h=>by cases h⟩,rfl,fun j hj=>?_⟩
  have:j=0:=by simp [kSl] at hj; exact hj
  subst this; exact .sl0 _ _
 ·have hsome:∀ i,i<len→∃ cs',w.cells? 0 (a.add (i*P.cellsOf e)) (P.cellsOf e)=some cs'∧∃ y,DataW.trod enc P w 0 (fun _=>true) true n e cs'=some y:=by
   intro i hi
   have hb:=hel i hi
   rw [List.getElem?_eq_getElem wa] at hb
   obtain ⟨cs',h1,h2⟩:=Option.bind_eq_some_iff.1 hb
   exact ⟨cs',h1,_,h2⟩
  obtain ⟨l,hll,hp⟩:=zxo K.z (fun i q=>good q∧∀ j,j<K.sz→∃ v,w.cell? (a.add (i*K.sz+j))=some v∧Rep w (fun _=>none) (Old w) ((K.enc q).getD j .nilptr) v) len (fun i hi=>by
   obtain ⟨cs',h1,y,h2⟩:=hsome i hi
   obtain ⟨q,g1,g2,g3⟩:=he H enc w n cs' y h2
   obtain ⟨_,k2,k3⟩:=World.cells?_some h1
   rw [hc] at k2 k3
   refine ⟨q,g1,fun j hj=>⟨cs'.getD j undef,?_,g3 j hj⟩⟩
   have:=k3 j hj
   have e1:(a.add (i*K.sz)).add j=a.add (i*K.sz+j):=by
    unfold Addr.add
    by_cases h1:i*K.sz=0
    ·simp [h1]
    ·by_cases h2:j=0
     ·simp [h1,h2]
     ·simp [h1,h2,Nat.add_assoc]
   rw [e1] at this
   rw [this]
   simp [List.getD,show j<cs'.length by omega])
  refine ⟨l,⟨wa,fun q hq=>?_⟩,rfl,fun j hj=>?_⟩
  ·obtain ⟨i,hi,rfl⟩:=List.mem_iff_getElem.1 hq
   have:=(hp i wa).1
   simpa [List.getD,hi] using this
  have:j=0:=by simp [kSl] at hj; exact hj
  subst this
  show Rep w _ _ (slK K l) (.slice (some a) len cap)
  by_cases hz:len=0
  ·have:l=[]:=List.eq_nil_of_length_eq_zero wa
   subst this; subst hz; exact .sl0 _ _
  ·obtain ⟨v,hv,_⟩:=(hp 0 wa).2 0 h0
   simp only [Nat.zero_mul,Nat.add_zero] at hv
   have hblk:∃ arr T fr,w.heap[a.block]? = some (.cells arr T fr)∧a.spot=none:=by
    unfold World.cell? at hv
    split at hv
    ·rename_i c e' f heq
     refine ⟨c,e',f,heq,?_⟩
     split at hv
     ·cases hv
     ·rename_i hs
      cases hsp:a.spot with
      | none=>rfl
      | some _=>simp [Addr.add,hsp] at hs
    ·cases hv
   obtain ⟨arr,T',fr,hb,hs⟩:=hblk
   obtain ⟨b,off,spot⟩:=a
   simp only at hb hs
   subst hs
   have hget:∀ i j,i<len→j<K.sz→∃ v,arr[off+(i*K.sz+j)]? = some v∧Rep w (fun _=>none) (Old w) ((K.enc (l.getD i K.z)).getD j .nilptr) v:=by
    intro i j hi hj
    obtain ⟨v,h1,h2⟩:=(hp i hi).2 j hj
    refine ⟨v,?_,h2⟩
    unfold World.cell? at h1
    have e1:(⟨b,off,none⟩:Addr).add (i*K.sz+j)=⟨b,off+(i*K.sz+j),none⟩:=by
     unfold Addr.add
     split
     ·rename_i h; rw [h]; rfl
     ·rfl
    rw [e1] at h1
    simp only [hb] at h1
    simpa using h1
   have hbl:b<w.heap.size:=by
    rcases Nat.lt_or_ge b w.heap.size with h | h
    ·exact h
    ·rw [Array.getElem?_eq_none h] at hb; cases hb
   have hsz:off+len*K.sz≤arr.size:=by
    obtain ⟨v,h1,_⟩:=hget (len-1) (K.sz-1) wa wa
    have:=(Array.getElem?_eq_some_iff.1 h1).1
    have e1:len*K.sz=(len-1)*K.sz+K.sz:=by
     rw [← Nat.succ_mul]; congr 1; omega
    omega
   have:=Rep.sl (w:=w) (A:=fun _=>none) (I:=Old w) (l.map K.enc) K.sz b off cap arr T' fr hbl hb (by rw [List.length_map]; omega) (by rw [List.length_map]; omega) (K.even l) (by rw [List.length_map,hll]; exact hsz) (fun i j hi hj=>by
    rw [List.length_map,hll] at hi
    obtain ⟨v,h1,h2⟩:=hget i j hi hj
    rw [Kd.getD l i wa]
    rw [Array.getD_eq_getD_getElem?,h1]; exact h2)
   rw [List.length_map,hll] at this
   exact this
def OpnS (P:Program) (T:TypeId) (S:List AV→Prop) (n:Nat):Prop:=
 ∀ (H:Type) (enc:TypeId × Value→H) (w:World) (fuel:Nat) (cs:List Value) (x:DataW H × List MemPlace),DataW.trod enc P w 0 (fun _=>true) true fuel T cs=some x→
  ∃ l,S l∧l.length=n∧cs.length=n∧∀ j,j<n→Rep w (fun _=>none) (Old w) (l.getD j .nilptr) (cs.getD j undef)
theorem Opn.s {α:Type} {K:Kd α} {good:α→Prop} (h:Opn P T K good):OpnS P T (fun l=>∃ a,good a∧l=K.enc a) K.sz:=by
 intro H enc w fuel cs x hx
 obtain ⟨a,h1,h2,h3⟩:=h H enc w fuel cs x hx
 exact ⟨K.enc a,⟨a,h1,rfl⟩,K.len a,h2,h3⟩
theorem OpnS.k {α:Type} {K:Kd α} {good:α→Prop} {S:List AV→Prop} (h:OpnS P T S K.sz) (hS:∀ l,S l→∃ a,good a∧l=K.enc a):Opn P T K good:=by
 intro H enc w fuel cs x hx
 obtain ⟨l,h1,h2,h3,h4⟩:=h H enc w fuel cs x hx
 obtain ⟨a,g1,rfl⟩:=hS l h1
 exact ⟨a,g1,h3,h4⟩
def znf:List (List AV→Prop)→List AV→Prop
 | [],l=>l=[]
 | S :: Ss,l=>∃ l1 l2,S l1∧znf Ss l2∧l=l1++l2
inductive FieldsO (P:Program):Nat→List Field→List (List AV→Prop)→Nat→Prop
 | nil (off:Nat):FieldsO P off [] [] off
 | cons {off n tot:Nat} {f:Field} {fs:List Field} {S:List AV→Prop} {Ss:List (List AV→Prop)} (ho:f.offset=off) (h:OpnS P f.type S n) (hc:P.cellsOf f.type=n) (k:FieldsO P (off+n) fs Ss tot):FieldsO P off (f :: fs) (S :: Ss) tot
theorem FieldsO.run {H:Type} {enc:TypeId × Value→H} {w:World} {m:Nat} {cs:List Value} {off tot:Nat} {fs:List Field} {Ss:List (List AV→Prop)} (h:FieldsO P off fs Ss tot) :
  (∀ (i:Nat) (f:Field),fs[i]? = some f→∃ x,DataW.trod enc P w 0 (fun _=>true) true m f.type ((cs.drop f.offset).take (P.cellsOf f.type))=some x)→
  ∃ l,znf Ss l∧off+l.length=tot∧∀ j,j<l.length→Rep w (fun _=>none) (Old w) (l.getD j .nilptr) (cs.getD (off+j) undef):=by
 induction h with
 | nil off=>intro _; exact ⟨[],rfl,wb,fun j hj=>by simp at hj⟩
 | @cons off n tot f fs S Ss ho h hc k ih=>
  intro hx
  obtain ⟨x,hx0⟩:=hx 0 f rfl
  obtain ⟨l1,g1,g2,g3,g4⟩:=h H enc w m _ x hx0
  obtain ⟨l2,k1,k2,k3⟩:=ih fun i f' hf=>hx (i+1) f' (by simpa using hf)
  refine ⟨l1++l2,⟨l1,l2,g1,k1,rfl⟩,by simp; omega,fun j hj=>?_⟩
  by_cases hj1:j<l1.length
  ·have e1:(l1++l2).getD j .nilptr=l1.getD j .nilptr:=by simp [List.getD,List.getElem?_append_left hj1]
   have:=g4 j wa
   have e2:((cs.drop f.offset).take (P.cellsOf f.type)).getD j undef=cs.getD (off+j) undef:=by
    simp only [List.getD]
    rw [List.getElem?_take_of_lt wa,List.getElem?_drop,ho]
   rw [e1,← e2]; exact this
  ·have e1:(l1++l2).getD j .nilptr=l2.getD (j-l1.length) .nilptr:=by simp [List.getD,List.getElem?_append_right (Nat.le_of_not_lt hj1)]
   have:=k3 (j-l1.length) (by simp at hj; omega)
   have e2:off+n+(j-l1.length)=off+j:=wa
   rw [e2] at this
   rw [e1]; exact this
theorem zrp {fs:Array Field} {Ss:List (List AV→Prop)} {tot:Nat} (hT:P.underlying T=some (.struct fs)) (hc:P.cellsOf T=tot) (h:FieldsO P 0 fs.toList Ss tot):OpnS P T (znf Ss) tot:=by
 intro H enc w fuel cs x hx
 obtain ⟨xs,n,rfl,_,h1,h2,h3⟩:=DataW.trod_struct hT hx
 obtain ⟨l,k1,k2,k3⟩:=h.run (enc:=enc) (w:=w) (m:=n) (cs:=cs) fun i f hf=>by
  have hf':fs[i]? = some f:=by simpa using hf
  have:=h3 i f hf'
  have hi:i<xs.length:=by rw [h2]; exact (Array.getElem?_eq_some_iff.1 hf').1
  rw [List.getElem?_eq_getElem hi] at this
  exact ⟨_,this⟩
 refine ⟨l,k1,wa,wa,fun j hj=>?_⟩
 have:=k3 j wa
 rw [Nat.zero_add] at this; exact this
end
theorem ACalls.law {P:Program} {f:FuncId} {args:List AV} {b:Bool} (h:ACalls P f args (lw []) (.bool b) (ld [])) (w:World) (vals:Array Value) (hs:vals.size=args.length)
  (hr:∀ i,i<args.length→Rep w (fun _=>none) (Old w) (args.getD i .nilptr) (vals.getD i undef)):Calls P f vals w fun e w'=>e = .returned (.bool b)∧Go.RowKit.Below w.heap.size w w':=by
 have hfr:∀ x,lw [] x=VS.fresh:=fun x=>zna [] x (Nat.zero_le _)
 have hno:∀ k,¬Z9 (lw []) (fun _=>none) k:=by rintro k ⟨x,hx,_⟩; rw [hfr x] at hx; exact hx
 refine (h w (fun _=>none) (Old w) vals hs hr { hv:=fun x=>?_,inj:=fun x y b hx=>?_,imm:=fun b hb=>hb }).mono ?_
 ·rw [hfr x]; rfl
 ·rw [hfr x] at hx; exact hx.elim
 ·rintro e w' ⟨v,A',I',rfl,hv,_,fr⟩
  cases hv
  exact ⟨rfl,⟨fr.os,fr.tape,fr.out,fr.size,fun k hk=>fr.keep k hk (hno k)⟩⟩
theorem Opn.agg {P:Program} {T:TypeId} {α:Type} {K:Kd α} {good:α→Prop} (h:Opn P T K good) {fs:Array Field} (hT:P.underlying T=some (.struct fs)) {H:Type} {enc:TypeId × Value→H} {w:World} {r:Reach} {b0:Nat} {v:Value} {d:DataW H} {ps:List MemPlace}
  (hv:Value.okWide P w r b0 T v) (ht:DataW.Trod enc P w 0 (fun _=>true) true T v d ps):∃ a,good a∧Rep w (fun _=>none) (Old w) (.agg (K.enc a)) v:=by
 obtain ⟨cs,rfl,_⟩:=Go.WideShapes.okWide_struct hT hv
 obtain ⟨fuel,hf⟩:=ht
 obtain ⟨a,h1,h2,h3⟩:=h H enc w fuel _ _ hf
 have hc:(Value.agg cs).cells.toList=cs.toList:=rfl
 rw [hc] at h2 h3
 refine ⟨a,h1,.agg _ cs (by rw [K.len]; simpa using h2) fun i hi=>?_⟩
 rw [K.len] at hi
 have:=h3 i hi
 have e:cs.getD i undef=cs.toList.getD i undef:=by simp [Array.getD_eq_getD_getElem?,List.getD]
 rw [e]; exact this
theorem Opn.int {P:Program} {T:TypeId} {k:IntKind} (hT:P.underlying T=some (.int k)) {H:Type} {enc:TypeId × Value→H} {w:World} {r:Reach} {b0:Nat} {v:Value} {d:DataW H} {ps:List MemPlace}
  (hv:Value.okWide P w r b0 T v) (ht:DataW.Trod enc P w 0 (fun _=>true) true T v d ps):∃ n,(Lit.int k n).wf=true∧Rep w (fun _=>none) (Old w) (.int k n) v:=by
 obtain ⟨n,rfl⟩:=Go.WideShapes.okWide_int hT hv
 obtain ⟨fuel,hf⟩:=ht
 obtain ⟨n',h,_,hw⟩:=DataW.trod_int hT hf
 simp [Value.cells] at h
 subst h
 exact ⟨n,hw,.int k n⟩
theorem Opn.bool {P:Program} {T:TypeId} (hT:P.underlying T=some .bool) {H:Type} {enc:TypeId × Value→H} {w:World} {r:Reach} {b0:Nat} {v:Value} {d:DataW H} {ps:List MemPlace}
  (hv:Value.okWide P w r b0 T v) (_ht:DataW.Trod enc P w 0 (fun _=>true) true T v d ps):∃ n:Bool,True∧Rep w (fun _=>none) (Old w) (.bool n) v:=by
 obtain ⟨n,rfl⟩:=Go.WideShapes.okWide_bool hT hv
 exact ⟨n,trivial,.bool n⟩
def Reps (w:World):List AV→List Value→Prop
 | [],[]=>True
 | a :: l,v :: r=>Rep w (fun _=>none) (Old w) a v∧Reps w l r
 | _,_=>False
theorem Reps.spec {w:World} : ∀ {l:List AV} {r:List Value},Reps w l r→r.length=l.length∧∀ i,i<l.length→Rep w (fun _=>none) (Old w) (l.getD i .nilptr) (r.getD i undef)
 | [],[],_=>⟨rfl,fun i h=>by simp at h⟩
 | a :: l,v :: r,h=>by
  obtain ⟨h1,h2⟩:=h
  obtain ⟨k1,k2⟩:=Reps.spec h2
  refine ⟨by simp [k1],fun i hi=>?_⟩
  cases i with
  | zero=>exact h1
  | succ i=>simpa using k2 i (by simpa using hi)
 | [],_ :: _,h=>h.elim
 | _ :: _,[],h=>h.elim
theorem ACalls.row {P:Program} {f:FuncId} {args:List AV} {b:Bool} (h:ACalls P f args (lw []) (.bool b) (ld [])) (w:World) (vals:List Value) (hr:Reps w args vals) :
  Calls P f vals.toArray w fun e w'=>e = .returned (.bool b)∧Go.RowKit.Below w.heap.size w w':=by
 obtain ⟨h1,h2⟩:=hr.spec
 refine h.law w vals.toArray (by simpa using h1) fun i hi=>?_
 have e:vals.toArray.getD i undef=vals.getD i undef:=by simp [Array.getD_eq_getD_getElem?,List.getD]
 rw [e]; exact h2 i hi
end Go.Abs
