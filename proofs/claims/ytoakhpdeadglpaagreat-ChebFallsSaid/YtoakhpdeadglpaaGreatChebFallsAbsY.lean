/- Functions as values: what they capture stands still; which one it is may be left open. Strings. -/
import Derived.Test.YtoakhpdeadglpaaGreatChebFallsAbsW
set_option linter.unusedVariables false
set_option linter.unusedSimpArgs false
namespace Go.Abs
section
variable {P:Program} {ops:Array Oper} {o:Oper} {N:Nat} {s:St}
theorem snd_box_i (T:TypeId) (y:Operand) (v:AV) (ho:o.op = .box T y) (hd:dlt o N=true) (hw:wnt ops o s.G=some true) (hv:opd s.G y=some v) (ht:∀ l,v ≠ .tup l) :
  Snd P ops o N s ⟨gsl ops o++[y].flatMap opr,o.dst,some (.iptr v.cellsOf),[],[]⟩:=by
 refine snd_val (fun t ht=>List.mem_append_left _ ht) hw ?_
 intro E s' hag a w A I c
 have hv':opd s'.G y=some v:=(opd_agree hag y fun t ht=>List.mem_append_right _ (by simpa using ht)).trans hv
 have hr:=(c.opd hv').cells ht
 refine ⟨.pointer (some ⟨w.heap.size,0,none⟩),w.alloc (.cells (a.eval y).cells T (0,0)),A,_,?_,c.still (.cells (a.eval y).cells T (0,0)) o.dst (some (.iptr v.cellsOf)) _ (dlt_spec hd) fun u z hz=>?_⟩
 ·simp only [execOp,ho]
  have:(Instr.box T (a.eval y)).run P w = .ok (.pointer (some ⟨w.heap.size,0,none⟩)) (w.alloc (.cells (a.eval y).cells T (0,0))):=by
   simp [Instr.box,newVar,newRow,newObj]
   rfl
  simp only [Sem.run_bind,this,Result.andThen_ok,Sem.run_pure]
 ·cases hz
  exact .iptr _ w.heap.size 0 _ T (0,0) (.inr rfl) (alloc_new w _) (by have:=hr.1; omega) (fun j hj=>by rw [Nat.zero_add]; exact u.rep (hr.2 j hj))
theorem run_append_nilU {P:Program} {w:World} (t u ty e:TypeId) (i:TypeInfo) (z:Value) (ht:P.underlying t=some (.slice e)) (hu:P.underlying u=some (.slice e)) (hi:P.info? e=some i) (hz:i.zero=some z)
  (a:Addr) (n c:Nat) (news:List Value) (hl:news.length=n*i.size) (hnews:∀ j v,news[j]? = some v→w.cell? (a.add j)=some v)
  (h0:0<n) (h63:(n:Int)≤9223372036854775807) (h48:n*i.bytes≤281474976710656) :
  (Builtin.append_ #[t,u] ty #[.slice none 0 0,.slice (some a) n c]).run P w =
   .ok (.slice (some ⟨w.heap.size,0,none⟩) n (grownCap w n 0 e)) (w.drew.alloc (.cells (news.toArray++Builtin.zeroCells z.cells (grownCap w n 0 e-n)) e)):=by
 have hn:n≠0:=by omega
 have h63':¬(9223372036854775807<(n:Int)):=by omega
 have h48':¬(281474976710656<Builtin.nextslicecap n 0*i.bytes):=by rw [nextslicecap_zero h0]; omega
 have hf:=run_firstCells_some (P:=P) w.drew i.size n a n c news hl (by simpa using hnews)
 simp [Builtin.append_,run_underlying ht,run_underlying hu,sizeOf,typeInfo,zeroValue,hi,hz,Builtin.lenOf,hn,h63',h48',Question.forced,run_firstCells_none,hf,newRow,grownCap]
theorem snd_append_nilU (T U e sz bytes:Nat) (x y:Operand) (z:Nat) (els:List (List AV)) (zs:List AV) (ho:o.op = .call ⟨.builtin .append,#[x,y],#[T,U]⟩) (hT:P.underlying T=some (.slice e)) (hU:P.underlying U=some (.slice e)) (hz:Zero P e zs)
  (hsz:(P.info? e).map (fun i=>(i.size,i.bytes))=some (sz,bytes)) (hzl:zs.length=sz) (hd:dlt o N=true) (hw:wnt ops o s.G=some true) (hfr:s.V z = .fresh)
  (hx:opd s.G x=some .nilsl) (hy:opd s.G y=some (.sl els)) (hev:Even sz els) (h0:0<els.length) (hmax:els.length≤maxLen) (hby:els.length*bytes≤140737488355328) :
  Snd P ops o N s ⟨gsl ops o++[x,y].flatMap opr,o.dst,some (.row z sz 0 els.length),[z],[(z,.rw e sz els)]⟩:=by
 refine snd_val (fun t ht=>List.mem_append_left _ ht) hw ?_
 intro E s' hag a w A I c
 have hz':s'.V z = .fresh:=(hag.2 z (by simp)).trans hfr
 have hx':=c.opd ((opd_agree hag x fun t ht=>List.mem_append_right _ (by simp; exact .inl ht)).trans hx)
 have hy':=c.opd ((opd_agree hag y fun t ht=>List.mem_append_right _ (by simp; exact .inr ht)).trans hy)
 obtain ⟨i,z0,hi,hzz,hsz2,hz⟩:=hz
 have hs:i.size=sz∧i.bytes=bytes:=by simpa [hi] using hsz
 obtain ⟨ad,cap,l,hye,hl,hcell,hrep⟩:=sl_cells hy' hev h0 els.length (Nat.le_refl _)
 generalize hq:a.eval x=q at hx'
 cases hx'
 have hmax':(els.length:Int)≤9223372036854775807:=by simp only [maxLen] at hmax; omega
 have hrun:=run_append_nilU (P:=P) (w:=w) T U o.type e i z0 hT hU hi hzz ad els.length cap l (by rw [hs.1]; exact hl) hcell h0 hmax' (by rw [hs.2]; omega)
 have c1:=c.drew
 have hge:=grownCap_ge w els.length 0 e
 have hgm:=grownCap_le_maxLen w els.length 0 e hmax
 have hzc:(Builtin.zeroCells z0.cells (grownCap w els.length 0 e-els.length)).size=(grownCap w els.length 0 e-els.length)*sz:=by simp [Builtin.zeroCells,hsz2,hzl]
 have hbs:(l.toArray++Builtin.zeroCells z0.cells (grownCap w els.length 0 e-els.length)).size=grownCap w els.length 0 e*sz:=by
  rw [Array.size_append,hzc]; simp only [List.size_toArray,hl]; rw [← Nat.add_mul]; congr 1; omega
 refine ⟨.slice (some ⟨w.heap.size,0,none⟩) els.length (grownCap w els.length 0 e),w.drew.alloc (.cells (l.toArray++Builtin.zeroCells z0.cells (grownCap w els.length 0 e-els.length)) e),upd A z (some w.drew.heap.size),I,?_,
  c1.alloc z hz' _ (.rw e sz els) o.dst (some (.row z sz 0 els.length)) _ (dlt_spec hd) (fun v hv=>?_) fun u=>?_⟩
 ·simp only [execOp,ho,resolve,invoke,builtin,Sem.run_bind,Sem.run_pure,Result.andThen_ok]
  have e1:Array.map a.eval #[x,y] = #[.slice none 0 0,.slice (some ad) els.length cap]:=by simp [hq,hye]
  rw [e1,hrun]
  simp
 ·cases hv
  exact .row z sz 0 _ _ w.heap.size _ e (0,0) _ (upd_same _ _ _) (alloc_new w.drew _) hge (fun _=>by simp) (by rw [hbs]; simp) (by omega)
 ·refine ⟨w.heap.size,_,upd_same _ _ _,alloc_new w.drew _,hev,by rw [hbs]; exact Nat.mul_le_mul_right _ hge,fun p j hp hj=>?_,fun h=>Nat.lt_irrefl _ (c.imm _ h),.inr c.frm.size⟩
  have hlt:p*sz+(j+1)≤els.length*sz:=mul_add_le hp hj
  have e2:(l.toArray++Builtin.zeroCells z0.cells (grownCap w els.length 0 e-els.length)).getD (p*sz+j) undef=l.getD (p*sz+j) undef:=by
   simp only [Array.getD_eq_getD_getElem?,List.getD]
   rw [Array.getElem?_append_left (by simp; omega)]; simp
  rw [e2]
  have u0:Up E w A I w.drew A I:=⟨Shp.refl w,fun _ _=>rfl,Nat.le_refl _,rfl,rfl,rfl,fun _ _ h=>h,fun _ h=>h,fun _ _ _=>rfl,fun _ h=>.inl h⟩
  exact u.rep (u0.rep (hrep p j hp hj))
theorem snd_appendK_nilU {α:Type} (K:Kd α) (T U e bytes:Nat) (x y:Operand) (z:Nat) (l:List α) (ho:o.op = .call ⟨.builtin .append,#[x,y],#[T,U]⟩) (hT:P.underlying T=some (.slice e)) (hU:P.underlying U=some (.slice e)) (hz:Zero P e (K.enc K.z))
  (hsz:(P.info? e).map (fun i=>(i.size,i.bytes))=some (K.sz,bytes)) (hd:dlt o N=true) (hw:wnt ops o s.G=some true) (hfr:s.V z = .fresh)
  (hx:opd s.G x=some .nilsl) (hy:opd s.G y=some (slK K l)) (h:0<l.length∧l.length≤9223372036854775807∧l.length*bytes≤140737488355328) :
  Snd P ops o N s ⟨gsl ops o++[x,y].flatMap opr,o.dst,some (.row z K.sz 0 l.length),[z],[(z,rwK K e l)]⟩:=by
 have:=snd_append_nilU T U e K.sz bytes x y z (l.map K.enc) (K.enc K.z) ho hT hU hz hsz (K.len _) hd hw hfr hx hy (Kd.even l) (by simpa using h.1) (by simpa [maxLen] using h.2.1) (by simpa using h.2.2)
 rw [List.length_map] at this
 exact this
theorem snd_str_eql (T U:TypeId) (x y:Operand) (b c:ByteArray) (ho:o.op = .binOp .eql T x y U) (hd:dlt o N=true) (hw:wnt ops o s.G=some true)
  (hx:opd s.G x=some (.str b)) (hy:opd s.G y=some (.str c)):Snd P ops o N s ⟨gsl ops o++[x,y].flatMap opr,o.dst,some (.bool (b.toList == c.toList)),[],[]⟩:=
 snd_pure [x,y] [.str b,.str c] _ hd hw (by simp [hx,hy]) fun ρ w A I h=>by
  have h0:=h 0 (by simp)
  have h1:=h 1 (by simp)
  simp at h0 h1
  generalize hq:ρ x=q at h0
  generalize hp:ρ y=p at h1
  cases h0
  cases h1
  exact ⟨_,by simp [execOp,ho,hq,hp,eqGuard,binOp,Op.stringOp],.bool _⟩
end
theorem AVle.fnAny (f:FuncId) (a c:List AV):AVle (.fn f a c) .anyf:=fun w A I x h=>by
 cases h; exact .anyf _ (.inr ⟨_,_,_,rfl⟩)
theorem AVle.nilAny:AVle .nilfn .anyf:=fun w A I x h=>by cases h; exact .anyf _ (.inl rfl)
inductive Lef:List AV→List AV→Prop
 | nil:Lef [] []
 | f {f:FuncId} {a c l r:List AV} (h:Lef l r):Lef (.fn f a c :: l) (.anyf :: r)
 | z {l r:List AV} (h:Lef l r):Lef (.nilfn :: l) (.anyf :: r)
 | s {v:AV} {l r:List AV} (h:Lef l r):Lef (v :: l) (v :: r)
theorem ren_iptrL {ρ:Nat→Option Nat} {a a':List AV} (h:RenL ρ a a'):Ren ρ (.iptr a) (.iptr a'):=.iptr _ _ h.spec.1 h.spec.2
instance:Dt .anyf:=⟨fun _=>.anyf⟩
instance {l:List AV} [h:DtL l]:Dt (.iptr l):=⟨fun ρ=>ren_iptrL (h.h ρ)⟩
instance:Rn .anyf:=⟨fun _ _ _=>.anyf⟩
instance {l:List AV} [h:DtL l]:Rn (.iptr l):=⟨fun _ _ _=>ren_iptrL (h.h _)⟩
instance {l r:List AV} [k:RnF r] [h:DtL l]:RnF (.iptr l :: r):=⟨fun z hn q=>by
 simp only [List.all_cons,Bool.and_eq_true] at q
 exact .cons (ren_iptrL (h.h _)) (k.h z hn q.2)⟩
section
variable {P:Program} {E:Ent} {N m:Nat} {R:Type} {o:Option R} {c:Ctl} {L:LG} {M:LV} {k:List (Fr R)} {Q:R→Exit→Act→World→Prop} {tb:List (Nat × TE)}
theorem bxi {a:Array Oper} {op:Oper} {T:TypeId} {y:Operand} {v:AV} {cs:List AV} (h:(op.op,dlt op N,wnt a op (lk L),opd (lk L) y,cellsO v)=(.box T y,true,some true,some v,some cs)) :
  Snd P a op N (mkS L M) ⟨gsl a op++[y].flatMap opr,op.dst,some (.iptr cs),[],[]⟩:=by
 simp only [Prod.mk.injEq] at h
 obtain ⟨k1,k2⟩:=cellsO_eq h.2.2.2.2
 have hs:=snd_box_i (P:=P) (s:=mkS L M) T y v h.1 h.2.1 h.2.2.1 h.2.2.2.1 (AV.not_tup k2)
 rw [k1]
 exact hs
theorem seq {a:Array Oper} {op:Oper} {T U:TypeId} {x y:Operand} {s t:ByteArray} (h:(op.op,dlt op N,wnt a op (lk L),opd (lk L) x,opd (lk L) y)=(.binOp .eql T x y U,true,some true,some (.str s),some (.str t))) :
  Snd P a op N (mkS L M) ⟨gsl a op++[x,y].flatMap opr,op.dst,some (.bool (s.toList == t.toList)),[],[]⟩:=by
 simp only [Prod.mk.injEq] at h
 exact snd_str_eql T U x y s t h.1 h.2.1 h.2.2.1 h.2.2.2.1 h.2.2.2.2
end
end Go.Abs
