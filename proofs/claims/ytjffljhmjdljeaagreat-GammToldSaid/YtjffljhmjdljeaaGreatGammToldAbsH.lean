/- What each operation does to an abstract state: structs, slices, fields, elements. -/
import Derived.Test.YtjffljhmjdljeaaGreatGammToldAbsG
set_option linter.unusedVariables false
set_option linter.unusedSimpArgs false
namespace Go.Abs
def AV.isTup:AV→Bool
 | .tup _=>true
 | _=>false
theorem AV.not_tup {v:AV} (h:v.isTup=false):∀ l,v ≠ .tup l:=by rintro l rfl; cases h
def zcg (place:Nat→Option (Nat × Nat)) (cells:List AV):List (Nat × AV)→Option (List AV)
 | []=>some cells
 | (i,v) :: rest=>match place i with
  | none=>none
  | some (off,size)=>if v.cellsOf.length=size∧off+v.cellsOf.length≤cells.length∧v.isTup=false then zcg place (splA cells off v.cellsOf) rest else none
theorem zwz (off:Nat):∀ (l:List Value) (k:Nat) (cells:Array Value),(l.zipIdx k).foldl (fun cs (p:Value × Nat)=>cs.setIfInBounds (off+p.2) p.1) cells=spl cells (off+k) l:=by
 intro l
 induction l with
 | nil=>intro k cells; rfl
 | cons v r ih=>intro k cells; simp only [List.zipIdx_cons,List.foldl_cons,ih,spl]; rfl
def RepC (w:World) (A:Nat→Option Nat) (I:Nat→Prop) (cs:List AV) (arr:Array Value):Prop:=arr.size=cs.length∧∀ i,i<cs.length→Rep w A I (cs.getD i .nilptr) (arr.getD i undef)
theorem RepC.spl {w:World} {A:Nat→Option Nat} {I:Nat→Prop} {cs l:List AV} {arr vs:Array Value} (h:RepC w A I cs arr) (k:RepC w A I l vs) (off:Nat) (hl:off+l.length≤cs.length):RepC w A I (splA cs off l) (spl arr off vs.toList):=by
 obtain ⟨h1,h2⟩:=h
 obtain ⟨k1,k2⟩:=k
 refine ⟨by rw [zdn,zgZ _ _ _ hl,h1],fun i hi=>?_⟩
 rw [zgZ _ _ _ hl] at hi
 rw [zmZ _ _ _ hl,zjn _ _ _ _ (by simp; omega)]
 have e:vs.toList.length=l.length:=by simpa using k1
 rw [e]
 by_cases hin:off≤i∧i<off+l.length
 ·rw [wc hin,wc hin]
  have:=k2 (i-off) wa
  have e2:vs.toList.getD (i-off) undef=vs.getD (i-off) undef:=by simp [List.getD]
  rw [e2]; exact this
 ·rw [we hin,we hin]; exact h2 i hi
theorem zm2 {w:World} {A:Nat→Option Nat} {I:Nat→Prop} (place:Nat→Option (Nat × Nat)):∀ (pa:List (Nat × AV)) (ps:List (Nat × Value)) (cs:List AV) (arr:Array Value) (r:List AV),
  RepC w A I cs arr→pa.length=ps.length→(∀ (i:Nat) p q,pa[i]? = some p→ps[i]? = some q→p.1=q.1∧Rep w A I p.2 q.2)→zcg place cs pa=some r→∃ arr',Instr.fill place arr ps=some arr'∧RepC w A I r arr':=by
 intro pa
 induction pa with
 | nil=>
  intro ps cs arr r h hl _ hf
  cases ps with
  | nil=>cases hf; exact ⟨arr,rfl,h⟩
  | cons _ _=>simp at hl
 | cons p pa ih=>
  intro ps cs arr r h hl hp hf
  cases ps with
  | nil=>simp at hl
  | cons q ps=>
   obtain ⟨i,v⟩:=p
   obtain ⟨j,x⟩:=q
   have h0:=hp 0 (i,v) (j,x) rfl rfl
   simp only at h0
   obtain ⟨rfl,hvx⟩:=h0
   simp only [zcg] at hf
   cases hpl:place i with
   | none=>rw [hpl] at hf; cases hf
   | some os=>
    obtain ⟨off,size⟩:=os
    rw [hpl] at hf
    simp only at hf
    by_cases hc:v.cellsOf.length=size∧off+v.cellsOf.length≤cs.length∧v.isTup=false
    ·rw [wc hc] at hf
     obtain ⟨c1,c2,c3⟩:=hc
     have hx:=hvx.cells (AV.not_tup c3)
     have hstep:=h.spl (l:=v.cellsOf) (vs:=x.cells) hx off c2
     obtain ⟨arr',g1,g2⟩:=ih ps _ _ r hstep (by simpa using hl) (fun k p q hp1 hq1=>hp (k+1) p q (by simpa using hp1) (by simpa using hq1)) hf
     refine ⟨arr',?_,g2⟩
     simp only [Instr.fill,hpl]
     have e:(x.cells.zipIdx.foldl (fun cs (p:Value × Nat)=>cs.setIfInBounds (off+p.2) p.1) arr)=spl arr off x.cells.toList:=by
      rw [← Array.foldl_toList,Array.toList_zipIdx,zwz]; rfl
     have hsz:=hx.1
     have hne:(decide (x.cells.size≠size) || decide (off+x.cells.size>arr.size))=false:=by
      have:=h.1
      simp; omega
     rw [we (by simp at hne; simp; omega)]
     have g1':=g1
     rw [← e] at g1'
     exact g1'
    ·rw [we hc] at hf; cases hf
def zg0 (P:Program) (T:TypeId) (pl:List (Nat × Nat)):Prop:=
 ∃ fields:Array Field,P.underlying T=some (.struct fields)∧∀ w,(fields.mapM (fun f=>(do pure (f.offset,← sizeOf f.type):Sem (Nat × Nat)))).run P w = .ok pl.toArray w
section ops
variable {P:Program} {ops:Array Oper} {o:Oper} {N:Nat} {s:St}
theorem zm3 {E:Ent} {s':St} {a:Act} {w:World} {A:Nat→Option Nat} {I:Nat→Prop} (c:Con E N s' a w A I) {e:Ev} (hag:zcf e s s') (parts:List (Nat × Operand)) (pa:List (Nat × AV))
  (hp:parts.map (fun p=>(p.1,opd s.G p.2))=pa.map fun p=>(p.1,some p.2)) (hr:∀ t ∈ (parts.map (·.2)).flatMap opr,t ∈ e.rs) :
  pa.length=(parts.map fun p=>(p.1,a.eval p.2)).length∧∀ (i:Nat) p q,pa[i]? = some p→(parts.map fun p=>(p.1,a.eval p.2))[i]? = some q→p.1=q.1∧Rep w A I p.2 q.2:=by
 have hl:parts.length=pa.length:=by simpa using congrArg List.length hp
 refine ⟨by simp [hl],fun i p q h1 h2=>?_⟩
 have hi:i<parts.length:=by have:=(List.getElem?_eq_some_iff.1 h1).1; omega
 simp [List.getElem?_eq_getElem hi] at h2
 have hi':i<pa.length:=wa
 have hpi:pa[i]=p:=by simpa [List.getElem?_eq_getElem hi'] using h1
 have hk:=congrArg (fun l=>l[i]?) hp
 simp [hi,hi',hpi] at hk
 rw [← h2]
 refine ⟨hk.1.symm,c.opd ?_⟩
 rw [qo hag parts[i].2 fun t ht=>hr t (List.mem_flatMap.2 ⟨_,List.mem_map.2 ⟨_,List.getElem_mem hi,rfl⟩,ht⟩)]
 exact hk.2
theorem zwA (T:TypeId) (parts:Array (Nat × Operand)) (zs:List AV) (pl:List (Nat × Nat)) (pa:List (Nat × AV)) (cs:List AV) (ho:o.op = .build T parts) (hz:qR P T zs) (hpl:zg0 P T pl) (hd:dlt o N=true)
  (hw:wnt ops o s.G=some true) (hp:parts.toList.map (fun p=>(p.1,opd s.G p.2))=pa.map fun p=>(p.1,some p.2)) (hf:zcg (fun i=>pl[i]?) zs pa=some cs) :
  Snd P ops o N s ⟨gsl ops o++(parts.toList.map (·.2)).flatMap opr,o.dst,some (.agg cs),[],[]⟩:=by
 refine qY (fun t ht=>List.mem_append_left _ ht) hw ?_
 intro E s' hag a w A I c
 obtain ⟨i,z,hi,hzz,hsz,hz⟩:=hz
 obtain ⟨fields,hu,hpl⟩:=hpl
 obtain ⟨h1,h2⟩:=zm3 c hag parts.toList pa hp fun t ht=>List.mem_append_right _ ht
 obtain ⟨arr,g1,g2⟩:=zm2 (w:=w) (A:=A) (I:=I) (fun i=>pl[i]?) pa _ zs z.cells cs ⟨hsz,fun k hk=>zm0 (hz k hk) _ _ _⟩ h1 h2 hf
 refine ⟨.agg arr,w,A,I,?_,c.pure o.dst _ _ (qA hd) (fun v hv=>by cases hv; exact .agg cs arr g2.1 g2.2)⟩
 have hzv:(zeroValue T).run P w = .ok z w:=by simp [zeroValue,typeInfo,hi,hzz]
 have hg:Instr.fill (fun x=>pl.toArray[x]?) z.cells (List.map (fun p=>(p.fst,a.eval p.snd)) parts.toList)=some arr:=by
  rw [← g1]; congr 1; funext x; simp
 have hrun:(Instr.build T (parts.map fun p=>(p.1,a.eval p.2))).run P w = .ok (.agg arr) w:=by
  unfold Instr.build
  simp only [Sem.run_bind,hzv,Result.andThen_ok,run_underlying hu,hpl w]
  simp only [Array.toList_map,hg]
  simp
 simp only [execOp,ho,Sem.run_bind]
 have hrun':(Instr.build T (parts.map fun (i,x)=>(i,a.eval x))).run P w = .ok (.agg arr) w:=hrun
 rw [hrun']
 simp
def Z8 (zs:List AV) (n:Nat):List AV:=(List.range n).map fun k=>zs.getD (k % zs.length) .nilptr
theorem zm4 {w:World} {A:Nat→Option Nat} {I:Nat→Prop} {zs:List AV} {z:Array Value} (hs:z.size=zs.length) (hz:∀ k,k<zs.length→okZ (z.getD k undef) (zs.getD k .nilptr)=true) (n:Nat) (h0:n=0∨0<zs.length) :
  RepC w A I (Z8 zs n) ((Array.range n).map (z[· % z.size]!)):=by
 refine ⟨by simp [Z8],fun i hi=>?_⟩
 have hin:i<n:=by simpa [Z8] using hi
 have hpos:0<zs.length:=wa
 have hm:i % zs.length<zs.length:=Nat.mod_lt _ hpos
 have e1:(Z8 zs n).getD i .nilptr=zs.getD (i % zs.length) .nilptr:=by simp [Z8,List.getD,hin]
 have e2:((Array.range n).map (z[· % z.size]!)).getD i undef=z.getD (i % zs.length) undef:=by
  simp [Array.getD,hin,hs,hm]
 rw [e1,e2]
 exact zm0 (hz _ hm) _ _ _
theorem zqU {sz:Nat} : ∀ {els:List (List AV)},Even sz els→∀ i j,i<els.length→j<sz→els.flatten.getD (i*sz+j) .nilptr=(els.getD i []).getD j .nilptr:=by
 intro els
 induction els with
 | nil=>intro _ i j hi; simp at hi
 | cons e r ih=>
  intro hev i j hi hj
  have he:e.length=sz:=hev e List.mem_cons_self
  cases i with
  | zero=>simp [List.getD,List.getElem?_append_left (show j<e.length by omega)]
  | succ i=>
   have:=ih (fun x hx=>hev x (List.mem_cons_of_mem _ hx)) i j (by simpa using hi) hj
   have e1:(i+1)*sz+j=e.length+(i*sz+j):=by rw [Nat.add_mul,he]; omega
   rw [e1]
   simp only [List.flatten_cons,List.getD,List.getElem?_append_right (Nat.le_add_right _ _),Nat.add_sub_cancel_left,List.getElem?_cons_succ]
   simpa [List.getD] using this
theorem zqV {sz:Nat} : ∀ {els:List (List AV)},Even sz els→els.flatten.length=els.length*sz:=by
 intro els
 induction els with
 | nil=>intro _; simp
 | cons e r ih=>
  intro hev
  have he:e.length=sz:=hev e List.mem_cons_self
  have:=ih fun x hx=>hev x (List.mem_cons_of_mem _ hx)
  simp only [List.flatten_cons,List.length_append,List.length_cons,this,he,Nat.add_mul]; omega
theorem zqW (T e len sz:Nat) (parts:Array (Nat × Operand)) (zs:List AV) (pa:List (Nat × AV)) (els:List (List AV)) (ho:o.op = .buildSlice T len parts) (hT:P.underlying T=some (.slice e)) (hz:qR P e zs)
  (hsz:(P.info? e).map (·.size)=some sz) (hzl:zs.length=sz) (hd:dlt o N=true) (hw:wnt ops o s.G=some true) (h24:len*sz≤16777216) (h0:0<len) (h0':0<sz)
  (hp:parts.toList.map (fun p=>(p.1,opd s.G p.2))=pa.map fun p=>(p.1,some p.2)) (hf:zcg (fun i=>some (i*sz,sz)) (Z8 zs (len*sz)) pa=some els.flatten) (hev:Even sz els) (hl:els.length=len) :
  Snd P ops o N s ⟨gsl ops o++(parts.toList.map (·.2)).flatMap opr,o.dst,some (.sl els),[],[]⟩:=by
 refine qY (fun t ht=>List.mem_append_left _ ht) hw ?_
 intro E s' hag a w A I c
 obtain ⟨i,z,hi,hzz,hsz2,hz⟩:=hz
 have hs:i.size=sz:=by simpa [hi] using hsz
 obtain ⟨h1,h2⟩:=zm3 c hag parts.toList pa hp fun t ht=>List.mem_append_right _ ht
 have hpos:0<len*sz:=Nat.mul_pos h0 h0'
 obtain ⟨arr,g1,g2⟩:=zm2 (w:=w) (A:=A) (I:=I) (fun i=>some (i*sz,sz)) pa _ (Z8 zs (len*sz)) _ _ (zm4 hsz2 hz (len*sz) (.inr wa)) h1 h2 hf
 refine ⟨.slice (some ⟨w.heap.size,0,none⟩) len len,w.alloc (.cells arr e (0,0)),A,_,?_,c.still (.cells arr e (0,0)) o.dst (some (.sl els)) _ (qA hd) fun u v hv=>?_⟩
 ·have hzv:(zeroValue e).run P w = .ok z w:=by simp [zeroValue,typeInfo,hi,hzz]
  have hso:(sizeOf e).run P w = .ok sz w:=by simp [sizeOf,typeInfo,hi,hs]
  have hrun:(Instr.buildSlice T len (parts.map fun p=>(p.1,a.eval p.2))).run P w = .ok (.slice (some ⟨w.heap.size,0,none⟩) len len) (w.alloc (.cells arr e (0,0))):=by
   unfold Instr.buildSlice
   simp only [Sem.run_bind,run_underlying hT,Result.andThen_ok,hso]
   have hn0:¬len*sz=0:=wa
   have hn24:¬len*sz>2 ^ 24:=by simp; omega
   simp only [hn24,hn0,if_false,Sem.run_bind,hzv,Result.andThen_ok,Array.toList_map,g1,Sem.run_pure]
   simp [newRow,newObj]
   rfl
  simp only [execOp,ho,Sem.run_bind]
  have hrun':(Instr.buildSlice T len (parts.map fun (i,x)=>(i,a.eval x))).run P w = .ok (.slice (some ⟨w.heap.size,0,none⟩) len len) (w.alloc (.cells arr e (0,0))):=hrun
  rw [hrun']
  simp
 ·cases hv
  have hfl:=zqV hev
  have:=Rep.sl (w:=w.alloc (.cells arr e (0,0))) (A:=A) (I:=fun b=>I b∨b=w.heap.size) els sz w.heap.size 0 len arr e (0,0) (.inr rfl) (QE w _) wa wa hev (by rw [g2.1]; omega) ?_
  ·rw [hl] at this; exact this
  ·intro i j hii hj
   rw [← zqU hev i j hii hj,Nat.zero_add]
   have hlt:i*sz+(j+1)≤els.length*sz:=Zo hii hj
   exact u.rep (g2.2 (i*sz+j) wa)
theorem zwB (T e sz bytes:Nat) (x y:Operand) (z:Nat) (k k':IntKind) (n:Int) (zs:List AV) (ho:o.op = .makeSlice T x y) (hT:P.underlying T=some (.slice e)) (hz:qR P e zs)
  (hsz:(P.info? e).map (fun i=>(i.size,i.bytes))=some (sz,bytes)) (hzl:zs.length=sz) (h0':0<sz) (hd:dlt o N=true) (hw:wnt ops o s.G=some true) (hfr:s.V z = .fresh)
  (hx:opd s.G x=some (.int k n)) (hy:opd s.G y=some (.int k' n)) (hn0:0≤n) (hnb:n*bytes≤281474976710656) (hnm:n≤281474976710656) :
  Snd P ops o N s ⟨gsl ops o++[x,y].flatMap opr,o.dst,some (.row z sz 0 n.toNat),[z],[(z,.rw e sz (List.replicate n.toNat zs))]⟩:=by
 refine qY (fun t ht=>List.mem_append_left _ ht) hw ?_
 intro E s' hag a w A I c
 have hz':s'.V z = .fresh:=(hag.2 z wb).trans hfr
 have hx':=c.opd ((qo hag x fun t ht=>List.mem_append_right _ (by simp; exact .inl ht)).trans hx)
 have hy':=c.opd ((qo hag y fun t ht=>List.mem_append_right _ (by simp; exact .inr ht)).trans hy)
 obtain ⟨i,z0,hi,hzz,hsz2,hz⟩:=hz
 have hs:i.size=sz∧i.bytes=bytes:=by simpa [hi] using hsz
 generalize hq:a.eval x=q at hx'
 generalize hp:a.eval y=p at hy'
 cases hx'
 cases hy'
 have hrun:=run_make (P:=P) w T e i z0 hT hi hzz k k' n n hn0 (Int.le_refl _) (by rw [hs.2,Int.mul_comm]; exact hnb) wa
 refine ⟨.slice (some ⟨w.heap.size,0,none⟩) n.toNat n.toNat,w.alloc (.cells (madeCells z0.cells (n.toNat*i.size)) e (0,0)),upd A z (some w.heap.size),I,?_,c.alloc z hz' (.cells (madeCells z0.cells (n.toNat*i.size)) e (0,0)) (.rw e sz (List.replicate n.toNat zs)) o.dst (some (.row z sz 0 n.toNat)) _ (qA hd) (fun v hv=>?_) fun u=>?_⟩
 ·simp only [execOp,ho,hq,hp,Sem.run_bind,hrun]
  simp
 ·cases hv
  refine .row z sz 0 _ _ w.heap.size (madeCells z0.cells (n.toNat*i.size)) e (0,0) _ (zT _ _ _) (QE w _) (Nat.le_refl _) (fun _=>wb) (by rw [size_madeCells,hs.1]; simp) (by simp [maxLen]; omega)
 ·have hrc:RepC (w.alloc (.cells (madeCells z0.cells (n.toNat*i.size)) e (0,0))) (upd A z (some w.heap.size)) I (Z8 zs (n.toNat*i.size)) (madeCells z0.cells (n.toNat*i.size)):=zm4 hsz2 hz _ (.inr wa)
  refine ⟨w.heap.size,_,zT _ _ _,QE w _,fun e he=>by rw [List.eq_of_mem_replicate he]; exact hzl,by rw [size_madeCells,List.length_replicate,hs.1]; omega,fun p j hp hj=>?_,fun h=>Nat.lt_irrefl _ (c.imm _ h),.inr c.frm.size⟩
  rw [List.length_replicate] at hp
  have hlt:p*sz+(j+1)≤n.toNat*sz:=Zo hp hj
  have:=hrc.2 (p*sz+j) (by simp [Z8,hs.1]; omega)
  have e1:(Z8 zs (n.toNat*i.size)).getD (p*sz+j) .nilptr=zs.getD j .nilptr:=by
   have hmod:(p*sz+j) % zs.length=j:=by rw [hzl,Nat.add_comm,Nat.add_mul_mod_self_right,Nat.mod_eq_of_lt hj]
   have hlt':p*sz+j<n.toNat*i.size:=by rw [hs.1]; omega
   simp [Z8,List.getD,hlt',hmod]
  have e2:(List.replicate n.toNat zs).getD p []=zs:=by simp [List.getD,hp]
  rw [e2,← e1]; exact this
def Fld (P:Program) (S k fo:Nat):Prop:=∃ (fields:Array Field) (f:Field) (i:TypeInfo),P.underlying S=some (.struct fields)∧fields[k]? = some f∧f.offset=fo∧P.info? f.type=some i∧i.size≠0
def zm5 (P:Program) (S k fo:Nat):Bool:=
 match P.underlying S with
 | some (.struct fields)=>match fields[k]? with
  | some f=>decide (f.offset=fo) && match P.info? f.type with | some i=>decide (i.size≠0) | none=>false
  | none=>false
 | _=>false
theorem zwC {P:Program} {S k fo:Nat} (h:zm5 P S k fo=true):Fld P S k fo:=by
 unfold zm5 at h
 split at h
 ·rename_i fields hu
  split at h
  ·rename_i f hf
   simp only [Bool.and_eq_true,decide_eq_true_eq] at h
   obtain ⟨h1,h2⟩:=h
   split at h2
   ·rename_i i hi
    exact ⟨fields,f,i,hu,hf,h1,hi,by simpa using h2⟩
   ·cases h2
  ·cases h
 ·cases h
theorem zwD {P:Program} {S k fo:Nat} (h:Fld P S k fo) (w:World) (b off:Nat):(Instr.fieldAt S (.pointer (some ⟨b,off,none⟩)) k).run P w = .ok (.pointer (some ⟨b,off+fo,none⟩)) w:=by
 obtain ⟨fields,f,i,hu,hf,rfl,hi,hs⟩:=h
 have hso:(sizeOf f.type).run P w = .ok i.size w:=by simp [sizeOf,typeInfo,hi]
 simp [Instr.fieldAt,run_underlying hu,hf,Instr.sureAddr,fieldPlace,hso,hs,Addr.add_mid]
theorem zqX (S k fo:Nat) (y:Operand) (x off:Nat) (ho:o.op = .fieldAddr S y k) (hF:Fld P S k fo) (hd:dlt o N=true) (hw:wnt ops o s.G=some true) (hy:opd s.G y=some (.ptr x off)) :
  Snd P ops o N s ⟨gsl ops o++[y].flatMap opr,o.dst,some (.ptr x (off+fo)),[],[]⟩:=
 qm [y] [.ptr x off] _ hd hw (by simp [hy]) fun ρ w A I h=>by
  have h0:=h 0 wb
  simp at h0
  generalize hq:ρ y=q at h0
  cases h0 with
  | ptr _ _ b hA=>exact ⟨_,by simp only [execOp,ho,hq,Sem.run_bind,zwD hF]; simp,.ptr x _ b hA⟩
end ops
end Go.Abs
