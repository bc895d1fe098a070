/- What each operation does to an abstract state: memory, operation by operation. -/
import Derived.Test.YtjffljhmjdljeaaGreatGammToldAbsF
set_option linter.unusedVariables false
set_option linter.unusedSimpArgs false
namespace Go.Abs
def okZ:Value→AV→Bool
 | .int k n,.int k' n'=>decide (k=k') && decide (n=n')
 | .bool b,.bool b'=>b == b'
 | .string s,.str s'=>decide (s=s')
 | .slice none 0 0,.nilsl=>true
 | .slice none 0 0,.sl []=>true
 | .pointer none,.nilptr=>true
 | .nilFunc,.nilfn=>true
 | _,_=>false
theorem zm0 {c:Value} {v:AV} (h:okZ c v=true) (w:World) (A:Nat→Option Nat) (I:Nat→Prop):Rep w A I v c:=by
 unfold okZ at h
 split at h
 ·simp at h; obtain ⟨rfl,rfl⟩:=h; exact .int _ _
 ·simp at h; subst h; exact .bool _
 ·simp at h; subst h; exact .str _
 ·exact .nilsl
 ·exact .sl0 _ _
 ·exact .nilptr
 ·exact .nilfn
 ·cases h
def qR (P:Program) (T:TypeId) (zs:List AV):Prop:=
 ∃ (i:TypeInfo) (z:Value),P.info? T=some i∧i.zero=some z∧z.cells.size=zs.length∧∀ k,k<zs.length→okZ (z.cells.getD k undef) (zs.getD k .nilptr)=true
def zm1 (P:Program) (T:TypeId) (zs:List AV):Bool:=
 match P.info? T with
 | some i=>match i.zero with
  | some z=>decide (z.cells.size=zs.length) && (List.range zs.length).all fun k=>okZ (z.cells.getD k undef) (zs.getD k .nilptr)
  | none=>false
 | none=>false
theorem zjA {P:Program} {T:TypeId} {zs:List AV} (h:zm1 P T zs=true):qR P T zs:=by
 unfold zm1 at h
 cases hi:P.info? T with
 | none=>rw [hi] at h; cases h
 | some i=>
  rw [hi] at h
  dsimp only at h
  cases hz:i.zero with
  | none=>rw [hz] at h; cases h
  | some z=>
   rw [hz] at h
   simp only [Bool.and_eq_true,decide_eq_true_eq] at h
   exact ⟨i,z,hi,hz,h.1,fun k hk=>List.all_eq_true.1 h.2 k (by simpa using hk)⟩
section ops
variable {P:Program} {ops:Array Oper} {o:Oper} {N:Nat} {s:St}
theorem zqP {E:Ent} {w:World} {A:Nat→Option Nat} {I:Nat→Prop} {x:Nat} {T:TypeId} {cs:List AV} {arr:Array Value} (f:Frm E w A I) (hI:∀ b,I b→b<w.heap.size)
  (hs:arr.size=cs.length) (hr:∀ i,i<cs.length→Rep (w.alloc (.cells arr T (0,0))) (upd A x (some w.heap.size)) I (cs.getD i .nilptr) (arr.getD i undef)) :
  Holds E (w.alloc (.cells arr T (0,0))) (upd A x (some w.heap.size)) I x (.live T cs):=
 ⟨w.heap.size,arr,zT _ _ _,QE w _,wa,hr,fun h=>Nat.lt_irrefl _ (hI _ h),.inr f.size⟩
theorem zqQ (T:TypeId) (zs:List AV) (x:Nat) (ho:o.op = .alloc T) (hz:qR P T zs) (hd:dlt o N=true) (hw:wnt ops o s.G=some true) (hx:s.V x = .fresh) :
  Snd P ops o N s ⟨gsl ops o,o.dst,some (.ptr x 0),[x],[(x,.live T zs)]⟩:=by
 refine qY (fun t ht=>ht) hw ?_
 intro E s' hag a w A I c
 obtain ⟨i,z,hi,hzz,hsz,hz⟩:=hz
 have hx':s'.V x = .fresh:=(hag.2 x wb).trans hx
 refine ⟨.pointer (some ⟨w.heap.size,0,none⟩),w.alloc (.cells z.cells T (0,0)),upd A x (some w.heap.size),I,?_,?_⟩
 ·simp only [execOp,ho]
  have:(Instr.alloc T true (.tuple #[])).run P w = .ok (.pointer (some ⟨w.heap.size,0,none⟩)) (w.alloc (.cells z.cells T (0,0))):=by
   simp [Instr.alloc,zeroValue,typeInfo,hi,hzz,newVar,newRow,newObj]
   rfl
  simp only [Sem.run_bind,this,Result.andThen_ok,Sem.run_pure]
 ·refine c.alloc x hx' _ (.live T zs) o.dst (some (.ptr x 0)) _ (qA hd) (fun v hv=>by cases hv; exact .ptr x 0 _ (zT _ _ _)) fun u=>?_
  exact zqP c.frm c.imm hsz fun k hk=>zm0 (hz k hk) _ _ _
theorem zqR (T:TypeId) (y:Operand) (v:AV) (x:Nat) (ho:o.op = .box T y) (hd:dlt o N=true) (hw:wnt ops o s.G=some true) (hx:s.V x = .fresh) (hv:opd s.G y=some v) (ht:∀ l,v ≠ .tup l) :
  Snd P ops o N s ⟨gsl ops o++[y].flatMap opr,o.dst,some (.ptr x 0),[x],[(x,.live T v.cellsOf)]⟩:=by
 refine qY (fun t ht=>List.mem_append_left _ ht) hw ?_
 intro E s' hag a w A I c
 have hx':s'.V x = .fresh:=(hag.2 x wb).trans hx
 have hv':opd s'.G y=some v:=(qo hag y fun t ht=>List.mem_append_right _ (by simpa using ht)).trans hv
 have hr:=(c.opd hv').cells ht
 refine ⟨.pointer (some ⟨w.heap.size,0,none⟩),w.alloc (.cells (a.eval y).cells T (0,0)),upd A x (some w.heap.size),I,?_,?_⟩
 ·simp only [execOp,ho]
  have:(Instr.box T (a.eval y)).run P w = .ok (.pointer (some ⟨w.heap.size,0,none⟩)) (w.alloc (.cells (a.eval y).cells T (0,0))):=by
   simp [Instr.box,newVar,newRow,newObj]
   rfl
  simp only [Sem.run_bind,this,Result.andThen_ok,Sem.run_pure]
 ·refine c.alloc x hx' _ (.live T v.cellsOf) o.dst (some (.ptr x 0)) _ (qA hd) (fun v hv=>by cases hv; exact .ptr x 0 _ (zT _ _ _)) fun u=>?_
  exact zqP c.frm c.imm hr.1 fun k hk=>u.rep (hr.2 k hk)
theorem zws (T:TypeId) (y:Operand) (x off n:Nat) (U:TypeId) (cs:List AV) (ho:o.op = .load T y) (hT:Agg P T n) (hd:dlt o N=true) (hw:wnt ops o s.G=some true)
  (hy:opd s.G y=some (.ptr x off)) (hx:s.V x = .live U cs) (hl:off+n≤cs.length) :
  Snd P ops o N s ⟨gsl ops o++[y].flatMap opr,o.dst,some (ldA cs off n),[x],[]⟩:=by
 refine qY (fun t ht=>List.mem_append_left _ ht) hw ?_
 intro E s' hag a w A I c
 have hx':s'.V x = .live U cs:=(hag.2 x wb).trans hx
 have hy':opd s'.G y=some (.ptr x off):=(qo hag y fun t ht=>List.mem_append_right _ (by simpa using ht)).trans hy
 have hp:=c.opd hy'
 have hh:=c.hv x
 rw [hx'] at hh
 obtain ⟨b,arr,h1,h2,h3,h4,_⟩:=hh
 generalize hq:a.eval y=q at hp
 cases hp with
 | ptr _ _ b' hA=>
  rw [h1] at hA; cases hA
  obtain ⟨v,hrun,hv⟩:=zjy (k:=off) (o:=0) hT h2 wa hl (by simpa using h4)
  refine ⟨v,w,A,I,?_,c.pure o.dst _ v (qA hd) (fun z hz=>by cases hz; exact hv)⟩
  rw [Nat.zero_add] at hrun
  simp only [execOp,ho,hq,Instr.loadAt,Instr.sureAddr,Sem.run_bind,Sem.run_pure,Result.andThen_ok,hrun]
theorem zwt (T:TypeId) (y:Operand) (x off:Nat) (U:TypeId) (cs:List AV) (ho:o.op = .load T y) (hT:Sca P T) (hd:dlt o N=true) (hw:wnt ops o s.G=some true)
  (hy:opd s.G y=some (.ptr x off)) (hx:s.V x = .live U cs) (hl:off<cs.length) :
  Snd P ops o N s ⟨gsl ops o++[y].flatMap opr,o.dst,some (ldS cs off),[x],[]⟩:=by
 refine qY (fun t ht=>List.mem_append_left _ ht) hw ?_
 intro E s' hag a w A I c
 have hx':s'.V x = .live U cs:=(hag.2 x wb).trans hx
 have hy':opd s'.G y=some (.ptr x off):=(qo hag y fun t ht=>List.mem_append_right _ (by simpa using ht)).trans hy
 have hp:=c.opd hy'
 have hh:=c.hv x
 rw [hx'] at hh
 obtain ⟨b,arr,h1,h2,h3,h4,_⟩:=hh
 generalize hq:a.eval y=q at hp
 cases hp with
 | ptr _ _ b' hA=>
  rw [h1] at hA; cases hA
  obtain ⟨v,hrun,hv⟩:=zjz (k:=off) (o:=0) hT h2 wa hl (by simpa using h4)
  refine ⟨v,w,A,I,?_,c.pure o.dst _ v (qA hd) (fun z hz=>by cases hz; exact hv)⟩
  rw [Nat.zero_add] at hrun
  simp only [execOp,ho,hq,Instr.loadAt,Instr.sureAddr,Sem.run_bind,Sem.run_pure,Result.andThen_ok,hrun]
theorem zwu (T:TypeId) (y:Operand) (n:Nat) (cs:List AV) (ho:o.op = .load T y) (hT:Agg P T n) (hd:dlt o N=true) (hw:wnt ops o s.G=some true)
  (hy:opd s.G y=some (.iptr cs)) (hl:n≤cs.length) :
  Snd P ops o N s ⟨gsl ops o++[y].flatMap opr,o.dst,some (ldA cs 0 n),[],[]⟩:=by
 refine qY (fun t ht=>List.mem_append_left _ ht) hw ?_
 intro E s' hag a w A I c
 have hy':opd s'.G y=some (.iptr cs):=(qo hag y fun t ht=>List.mem_append_right _ (by simpa using ht)).trans hy
 have hp:=c.opd hy'
 generalize hq:a.eval y=q at hp
 cases hp with
 | iptr _ b off arr U fr hI hb hz hr=>
  obtain ⟨v,hrun,hv⟩:=zjy (k:=0) (o:=off) hT hb wa wa hr
  refine ⟨v,w,A,I,?_,c.pure o.dst _ v (qA hd) (fun z hz=>by cases hz; exact hv)⟩
  rw [Nat.add_zero] at hrun
  simp only [execOp,ho,hq,Instr.loadAt,Instr.sureAddr,Sem.run_bind,Sem.run_pure,Result.andThen_ok,hrun]
theorem zwv (T:TypeId) (y:Operand) (cs:List AV) (ho:o.op = .load T y) (hT:Sca P T) (hd:dlt o N=true) (hw:wnt ops o s.G=some true)
  (hy:opd s.G y=some (.iptr cs)) (hl:0<cs.length) :
  Snd P ops o N s ⟨gsl ops o++[y].flatMap opr,o.dst,some (ldS cs 0),[],[]⟩:=by
 refine qY (fun t ht=>List.mem_append_left _ ht) hw ?_
 intro E s' hag a w A I c
 have hy':opd s'.G y=some (.iptr cs):=(qo hag y fun t ht=>List.mem_append_right _ (by simpa using ht)).trans hy
 have hp:=c.opd hy'
 generalize hq:a.eval y=q at hp
 cases hp with
 | iptr _ b off arr U fr hI hb hz hr=>
  obtain ⟨v,hrun,hv⟩:=zjz (k:=0) (o:=off) hT hb wa hl hr
  refine ⟨v,w,A,I,?_,c.pure o.dst _ v (qA hd) (fun z hz=>by cases hz; exact hv)⟩
  rw [Nat.add_zero] at hrun
  simp only [execOp,ho,hq,Instr.loadAt,Instr.sureAddr,Sem.run_bind,Sem.run_pure,Result.andThen_ok,hrun]
theorem Zo {i n j sz:Nat} (hi:i<n) (hj:j≤sz):i*sz+j≤n*sz:=by
 have h:(i+1)*sz≤n*sz:=Nat.mul_le_mul_right _ hi
 rw [Nat.add_mul,Nat.one_mul] at h; omega
theorem Q2 {sz:Nat} {els:List (List AV)} (h:Even sz els) {i:Nat} (hi:i<els.length):(els.getD i []).length=sz:=h _ (getD_mem els i [] hi)
theorem zww (T:TypeId) (y:Operand) (x sz i off n:Nat) (U:TypeId) (els:List (List AV)) (ho:o.op = .load T y) (hT:Agg P T n) (hd:dlt o N=true) (hw:wnt ops o s.G=some true)
  (hy:opd s.G y=some (.rptr x sz i off)) (hx:s.V x = .rw U sz els) (hi:i<els.length) (hl:off+n≤sz) :
  Snd P ops o N s ⟨gsl ops o++[y].flatMap opr,o.dst,some (ldA (els.getD i []) off n),[x],[]⟩:=by
 refine qY (fun t ht=>List.mem_append_left _ ht) hw ?_
 intro E s' hag a w A I c
 have hx':s'.V x = .rw U sz els:=(hag.2 x wb).trans hx
 have hy':opd s'.G y=some (.rptr x sz i off):=(qo hag y fun t ht=>List.mem_append_right _ (by simpa using ht)).trans hy
 have hp:=c.opd hy'
 have hh:=c.hv x
 rw [hx'] at hh
 obtain ⟨b,arr,h1,h2,h3,h4,h5,_⟩:=hh
 generalize hq:a.eval y=q at hp
 cases hp with
 | rptr _ _ _ _ b' hA=>
  rw [h1] at hA; cases hA
  have hle:i*sz+(off+n)≤els.length*sz:=Zo hi hl
  have hel:=Q2 h3 hi
  obtain ⟨v,hrun,hv⟩:=zjy (k:=off) (o:=i*sz) (cs:=els.getD i []) hT h2 wa wa (fun j hj=>h5 i j hi wa)
  refine ⟨v,w,A,I,?_,c.pure o.dst _ v (qA hd) (fun z hz=>by cases hz; exact hv)⟩
  simp only [execOp,ho,hq,Instr.loadAt,Instr.sureAddr,Sem.run_bind,Sem.run_pure,Result.andThen_ok,hrun]
theorem zwx (T:TypeId) (y:Operand) (x sz i off:Nat) (U:TypeId) (els:List (List AV)) (ho:o.op = .load T y) (hT:Sca P T) (hd:dlt o N=true) (hw:wnt ops o s.G=some true)
  (hy:opd s.G y=some (.rptr x sz i off)) (hx:s.V x = .rw U sz els) (hi:i<els.length) (hl:off<sz) :
  Snd P ops o N s ⟨gsl ops o++[y].flatMap opr,o.dst,some (ldS (els.getD i []) off),[x],[]⟩:=by
 refine qY (fun t ht=>List.mem_append_left _ ht) hw ?_
 intro E s' hag a w A I c
 have hx':s'.V x = .rw U sz els:=(hag.2 x wb).trans hx
 have hy':opd s'.G y=some (.rptr x sz i off):=(qo hag y fun t ht=>List.mem_append_right _ (by simpa using ht)).trans hy
 have hp:=c.opd hy'
 have hh:=c.hv x
 rw [hx'] at hh
 obtain ⟨b,arr,h1,h2,h3,h4,h5,_⟩:=hh
 generalize hq:a.eval y=q at hp
 cases hp with
 | rptr _ _ _ _ b' hA=>
  rw [h1] at hA; cases hA
  have hle:i*sz+(off+1)≤els.length*sz:=Zo hi hl
  have hel:=Q2 h3 hi
  obtain ⟨v,hrun,hv⟩:=zjz (k:=off) (o:=i*sz) (cs:=els.getD i []) hT h2 wa wa (fun j hj=>h5 i j hi wa)
  refine ⟨v,w,A,I,?_,c.pure o.dst _ v (qA hd) (fun z hz=>by cases hz; exact hv)⟩
  simp only [execOp,ho,hq,Instr.loadAt,Instr.sureAddr,Sem.run_bind,Sem.run_pure,Result.andThen_ok,hrun]
theorem zqS {T:TypeId} {n:Nat} (hT:Agg P T n∨(n=1∧Sca P T)) {w:World} {A:Nat→Option Nat} {I:Nat→Prop} {v:AV} {x:Value} (h:Rep w A I v x) (hn:v.cellsOf.length=n) (h1:v.cellsOf.all AV.one=true)
  (ha:Agg P T n→∃ l,v = .agg l) (hs:Sca P T→v.one=true) {b:Nat} {arr:Array Value} {U:TypeId} (hb:w.heap[b]? = some (.cells arr U (0,0))) (off:Nat) (hl:off+n≤arr.size) :
  (storeVar T ⟨b,off,none⟩ x).run P w = .ok () (w.setCells b off x.cells.toList)∧x.cells.size=n:=by
 rcases hT with hA | ⟨rfl,hS⟩
 ·obtain ⟨l,rfl⟩:=ha hA
  obtain ⟨d,g1,g2,g3⟩:=hA
  cases h with
  | agg _ vs hsz hr=>
   simp only [AV.cellsOf] at hn h1
   have hall:vs.all (·.oneCell')=true:=by
    rw [Array.all_eq_true]
    intro i hi
    have:=hr i wa
    have h1':=List.all_eq_true.1 h1 _ (getD_mem l i .nilptr wa)
    have:=this.one h1'
    simpa [Array.getD,hi] using this
   refine ⟨run_storeVar_mid w b off T vs (zmX hb off vs.size wa) (by rw [g3]; congr 1; omega) hall,by simp only [Value.cells]; omega⟩
 ·have h1v:=h.one (hs hS)
  have hc:x.cells = #[x]:=by cases x<;>first | rfl | cases h1v
  rw [hc]
  exact ⟨zwr hS w b off x (zmX hb off 1 hl) h1v,rfl⟩
theorem zqT (T:TypeId) (y z:Operand) (x off n:Nat) (U:TypeId) (cs:List AV) (v:AV) (ho:o.op = .store T y z) (hdst:o.dst=none) (hT:Agg P T n∨(n=1∧Sca P T)) (hw:wnt ops o s.G=some true)
  (hy:opd s.G y=some (.ptr x off)) (hz:opd s.G z=some v) (hx:s.V x = .live U cs) (hn:v.cellsOf.length=n) (h1:v.cellsOf.all AV.one=true)
  (ha:Agg P T n→∃ l,v = .agg l) (hs:Sca P T→v.one=true) (hl:off+n≤cs.length) :
  Snd P ops o N s ⟨gsl ops o++[y,z].flatMap opr,none,none,[x],[(x,.live U (splA cs off v.cellsOf))]⟩:=by
 refine zqK (fun t ht=>List.mem_append_left _ ht) hw ?_
 intro E s' hag a w A I c
 have hx':s'.V x = .live U cs:=(hag.2 x wb).trans hx
 have hy':opd s'.G y=some (.ptr x off):=(qo hag y fun t ht=>List.mem_append_right _ (by simp; exact .inl ht)).trans hy
 have hz':opd s'.G z=some v:=(qo hag z fun t ht=>List.mem_append_right _ (by simp; exact .inr ht)).trans hz
 have hp:=c.opd hy'
 have hvr:=c.opd hz'
 have hh:=c.hv x
 rw [hx'] at hh
 obtain ⟨b,arr,g1,g2,g3,g4,g5,g6⟩:=hh
 have hvt:∀ l,v ≠ .tup l:=by
  rintro l rfl
  exact absurd h1 (by simp [AV.cellsOf,AV.one])
 have hcells:=hvr.cells hvt
 generalize hq:a.eval y=q at hp
 cases hp with
 | ptr _ _ b' hA=>
  rw [g1] at hA; cases hA
  obtain ⟨hrun,hsz⟩:=zqS hT hvr hn h1 ha hs g2 off wa
  obtain ⟨k1,k2,k3,k4,k5,k6⟩:=zmQ b (a.eval z).cells.toList w off
  refine ⟨w.setCells b off (a.eval z).cells.toList,A,I,by simp only [execOp,ho,hq,Instr.storeAt,Instr.sureAddr,Sem.run_bind,Sem.run_pure,Result.andThen_ok,hrun],?_⟩
  rw [hdst]
  refine c.change x b (by rw [hx']; trivial) g1 k1 k2 k3 k4 k5 (fun arr T fr h=>⟨_,k6 arr T fr h,zdn _ _ _⟩) (.live U (splA cs off v.cellsOf)) none none undef (fun t ht=>by cases ht) (fun _ z hz=>by cases hz) fun u=>?_
  refine ⟨b,_,g1,k6 arr U (0,0) g2,by rw [zdn,zgZ _ _ _ wa]; exact g3,fun i hi=>?_,g5,g6⟩
  rw [zgZ _ _ _ wa] at hi
  rw [zmZ _ _ _ wa,zjn _ _ _ _ (by simp; omega)]
  have e:(a.eval z).cells.toList.length=v.cellsOf.length:=by simpa using hcells.1
  rw [e]
  by_cases hin:off≤i∧i<off+v.cellsOf.length
  ·rw [wc hin,wc hin]
   have:=hcells.2 (i-off) wa
   have e2:(a.eval z).cells.toList.getD (i-off) undef=(a.eval z).cells.getD (i-off) undef:=by simp [List.getD]
   rw [e2]; exact u.rep this
  ·rw [we hin,we hin]
   exact u.rep (g4 i hi)
theorem zwy (T:TypeId) (y z:Operand) (x sz i off n:Nat) (U:TypeId) (els:List (List AV)) (v:AV) (ho:o.op = .store T y z) (hdst:o.dst=none) (hT:Agg P T n∨(n=1∧Sca P T)) (hw:wnt ops o s.G=some true)
  (hy:opd s.G y=some (.rptr x sz i off)) (hz:opd s.G z=some v) (hx:s.V x = .rw U sz els) (hn:v.cellsOf.length=n) (h1:v.cellsOf.all AV.one=true)
  (ha:Agg P T n→∃ l,v = .agg l) (hs:Sca P T→v.one=true) (hi:i<els.length) (hl:off+n≤sz) :
  Snd P ops o N s ⟨gsl ops o++[y,z].flatMap opr,none,none,[x],[(x,.rw U sz (els.set i (splA (els.getD i []) off v.cellsOf)))]⟩:=by
 refine zqK (fun t ht=>List.mem_append_left _ ht) hw ?_
 intro E s' hag a w A I c
 have hx':s'.V x = .rw U sz els:=(hag.2 x wb).trans hx
 have hy':opd s'.G y=some (.rptr x sz i off):=(qo hag y fun t ht=>List.mem_append_right _ (by simp; exact .inl ht)).trans hy
 have hz':opd s'.G z=some v:=(qo hag z fun t ht=>List.mem_append_right _ (by simp; exact .inr ht)).trans hz
 have hp:=c.opd hy'
 have hvr:=c.opd hz'
 have hh:=c.hv x
 rw [hx'] at hh
 obtain ⟨b,arr,g1,g2,g3,g4,g5,g6,g7⟩:=hh
 have hvt:∀ l,v ≠ .tup l:=by
  rintro l rfl
  exact absurd h1 (by simp [AV.cellsOf,AV.one])
 have hcells:=hvr.cells hvt
 have hle:i*sz+(off+n)≤els.length*sz:=Zo hi hl
 have hel:=Q2 g3 hi
 generalize hq:a.eval y=q at hp
 cases hp with
 | rptr _ _ _ _ b' hA=>
  rw [g1] at hA; cases hA
  obtain ⟨hrun,hsz⟩:=zqS hT hvr hn h1 ha hs g2 (i*sz+off) wa
  obtain ⟨k1,k2,k3,k4,k5,k6⟩:=zmQ b (a.eval z).cells.toList w (i*sz+off)
  refine ⟨w.setCells b (i*sz+off) (a.eval z).cells.toList,A,I,by simp only [execOp,ho,hq,Instr.storeAt,Instr.sureAddr,Sem.run_bind,Sem.run_pure,Result.andThen_ok,hrun],?_⟩
  rw [hdst]
  refine c.change x b (by rw [hx']; trivial) g1 k1 k2 k3 k4 k5 (fun arr T fr h=>⟨_,k6 arr T fr h,zdn _ _ _⟩) (.rw U sz (els.set i (splA (els.getD i []) off v.cellsOf))) none none undef (fun t ht=>by cases ht) (fun _ z hz=>by cases hz) fun u=>?_
  refine ⟨b,_,g1,k6 arr U (0,0) g2,?_,by rw [zdn,List.length_set]; exact g4,fun p j hp hj=>?_,g6,g7⟩
  ·intro e he
   rcases List.mem_or_eq_of_mem_set he with h | h
   ·exact g3 e h
   ·rw [h,zgZ _ _ _ wa]; exact hel
  ·rw [List.length_set] at hp
   rw [zjn _ _ _ _ (by simp; omega)]
   have e:(a.eval z).cells.toList.length=v.cellsOf.length:=by simpa using hcells.1
   rw [e]
   by_cases hpi:p=i
   ·subst hpi
    have es:(els.set p (splA (els.getD p []) off v.cellsOf)).getD p []=splA (els.getD p []) off v.cellsOf:=by simp [List.getD,hi]
    rw [es,zmZ _ _ _ wa]
    by_cases hin:off≤j∧j<off+v.cellsOf.length
    ·rw [wc hin,wc wa]
     have:=hcells.2 (j-off) wa
     have e2:(a.eval z).cells.toList.getD (p*sz+j-(p*sz+off)) undef=(a.eval z).cells.getD (j-off) undef:=by
      rw [show p*sz+j-(p*sz+off)=j-off by omega]; simp [List.getD]
     rw [e2]; exact u.rep this
    ·rw [we hin,we wa]
     exact u.rep (g5 p j hp hj)
   ·have es:(els.set i (splA (els.getD i []) off v.cellsOf)).getD p []=els.getD p []:=by simp [List.getD,List.getElem?_set_ne (fun h=>hpi h.symm)]
    rw [es,we]
    ·exact u.rep (g5 p j hp hj)
    ·rintro ⟨q1,q2⟩
     rcases Nat.lt_or_gt_of_ne hpi with h | h
     ·have:p*sz+(j+1)≤i*sz:=by have:=Zo (n:=i) h (show j+1≤sz from hj); omega
      omega
     ·have:i*sz+sz≤p*sz:=Zo h (Nat.le_refl _)
      omega
end ops
end Go.Abs
