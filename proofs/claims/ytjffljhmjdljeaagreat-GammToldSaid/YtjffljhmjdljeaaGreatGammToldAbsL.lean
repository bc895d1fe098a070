/- Copy, append; what a function hands back. -/
import Derived.Test.YtjffljhmjdljeaaGreatGammToldAbsK
import Derived.Laws.AppendOwn
set_option linter.unusedVariables false
set_option linter.unusedSimpArgs false
namespace Go.Abs
theorem Con.drew {E:Ent} {N:Nat} {s:St} {a:Act} {w:World} {A:Nat→Option Nat} {I:Nat→Prop} (c:Con E N s a w A I):Con E N s a w.drew A I:=by
 have u:Up E w A I w.drew A I:=⟨Shp.refl w,fun _ _=>rfl,Nat.le_refl _,rfl,rfl,rfl,fun _ _ h=>h,fun _ h=>h,fun _ _ _=>rfl,fun _ h=>.inl h⟩
 exact { hv:=fun x=>(c.hv x).up u id fun _ _ _=>⟨rfl,id⟩,inj:=c.inj,imm:=c.imm,frm:=u.frm c.frm,tmps:=c.tmps,defs:=c.defs,G:=fun t v hv=>let ⟨x,h1,h2⟩:=c.G t v hv; ⟨x,h1,u.rep h2⟩ }
theorem Con.rename {E:Ent} {N:Nat} {s:St} {a:Act} {w:World} {A:Nat→Option Nat} {I:Nat→Prop} (c:Con E N s a w A I) (x z:Nat) (hx:(s.V x).on) (hz:s.V z = .fresh) :
  Up E w A I w (upd A z (A x)) I∧Con E N ⟨s.G,upd (upd s.V x .dead) z (s.V x)⟩ a w (upd A z (A x)) I:=by
 have hAz:A z=none:=by have:=c.hv z; rw [hz] at this; exact this
 have hxz:x≠z:=by rintro rfl; rw [hz] at hx; exact hx
 have hup:Up E w A I w (upd A z (A x)) I:={
  shp:=Shp.refl w
  immk:=fun _ _=>rfl
  size:=Nat.le_refl _
  os:=rfl,out:=rfl,tape:=rfl
  hA:=fun y b hb=>by rw [qn]; exact hb; rintro rfl; rw [hAz] at hb; cases hb
  hI:=fun _ h=>h
  keep:=fun _ _ _=>rfl
  IO:=fun _ h=>.inl h }
 refine ⟨hup,{ hv:=fun y=>?_,inj:=?_,imm:=c.imm,frm:=hup.frm c.frm,tmps:=c.tmps,defs:=c.defs,G:=fun t v h=>let ⟨y,h1,h2⟩:=c.G t v h; ⟨y,h1,hup.rep h2⟩ }⟩
 ·by_cases e:y=z
  ·subst e
   show Holds E w (upd A y (A x)) I y (upd (upd s.V x .dead) y (s.V x) y)
   rw [zT]
   have h:=c.hv x
   generalize s.V x=u at h hx
   cases u with
   | fresh=>exact hx.elim
   | dead=>exact hx.elim
   | live T cs=>obtain ⟨b,arr,h1,h2,h3,h4,h5,h6⟩:=h; exact ⟨b,arr,(zT _ _ _).trans h1,h2,h3,fun i hi=>hup.rep (h4 i hi),h5,h6⟩
   | rw T sz els=>obtain ⟨b,arr,h1,h2,h3,h4,h5,h6,h7⟩:=h; exact ⟨b,arr,(zT _ _ _).trans h1,h2,h3,h4,fun i j hi hj=>hup.rep (h5 i j hi hj),h6,h7⟩
  ·show Holds E w (upd A z (A x)) I y (upd (upd s.V x .dead) z (s.V x) y)
   rw [qn _ _ e]
   by_cases e2:y=x
   ·subst e2; rw [zT]; trivial
   ·rw [qn _ _ e2]
    exact (c.hv y).up hup (fun h=>by rw [qn _ _ e]; exact h) fun b _ _=>⟨rfl,id⟩
 ·have key:∀ y b,(upd (upd s.V x .dead) z (s.V x) y).on→upd A z (A x) y=some b→∃ y',(s.V y').on∧A y'=some b∧((y=z∧y'=x)∨(y≠z∧y≠x∧y'=y)):=by
   intro y b hy hb
   by_cases e:y=z
   ·subst e; rw [zT] at hb; exact ⟨x,hx,hb,.inl ⟨rfl,rfl⟩⟩
   ·rw [qn _ _ e] at hy hb
    by_cases e2:y=x
    ·subst e2; rw [zT] at hy; exact hy.elim
    ·rw [qn _ _ e2] at hy; exact ⟨y,hy,hb,.inr ⟨e,e2,rfl⟩⟩
  intro p q b hp hq hpb hqb
  obtain ⟨p',h1,h2,h3⟩:=key p b hp hpb
  obtain ⟨q',k1,k2,k3⟩:=key q b hq hqb
  have:=c.inj p' q' b h1 k1 h2 k2
  subst this
  rcases h3 with ⟨a1,a2⟩ | ⟨a1,a2,a3⟩<;>rcases k3 with ⟨b1,b2⟩ | ⟨b1,b2,b3⟩
  ·rw [a1,b1]
  ·exact absurd (b3.symm.trans a2) b2
  ·exact absurd (a3.symm.trans b2) a2
  ·exact a3.symm.trans b3
theorem zq5 {w:World} {b:Nat} {arr:Array Value} {T:TypeId} {fr:Nat × Nat} (h:w.heap[b]? = some (.cells arr T fr)) (o n:Nat) (hn:o+n≤arr.size) :
  ∃ l:List Value,l.length=n∧(∀ j v,l[j]? = some v→w.cell? ((⟨b,o,none⟩:Addr).add j)=some v)∧∀ j,j<n→l.getD j undef=arr.getD (o+j) undef:=by
 refine ⟨(arr.extract o (o+n)).toList,by simp; omega,fun j v hj=>?_,fun j hj=>?_⟩
 ·rw [Addr.add_mid]; exact zqN h o n hn j v hj
 ·have:=zmY arr o n j hj hn
  rw [← this]; simp only [List.getD,Array.getD_eq_getD_getElem?,Array.getElem?_toList]
section ops
variable {P:Program} {ops:Array Oper} {o:Oper} {N:Nat} {s:St}
theorem zm7 {w:World} {A:Nat→Option Nat} {I:Nat→Prop} {els:List (List AV)} {x:Value} {sz:Nat} (h:Rep w A I (.sl els) x) (hev:Even sz els) (h0:0<els.length) (k:Nat) (hk:k≤els.length) :
  ∃ (ad:Addr) (cap:Nat) (l:List Value),x = .slice (some ad) els.length cap∧l.length=k*sz∧(∀ j v,l[j]? = some v→w.cell? (ad.add j)=some v)∧
   ∀ i j,i<k→j<sz→Rep w A I ((els.getD i []).getD j .nilptr) (l.getD (i*sz+j) undef):=by
 cases h with
 | sl0 _ _=>simp at h0
 | sl _ sz' b off cap arr U fr hI hb _ hc hs hz hr=>
  have:sz'=sz:=by
   have h1:=Q2 hs h0
   have h2:=Q2 hev h0
   omega
  subst this
  have hle:k*sz'≤els.length*sz':=Nat.mul_le_mul_right _ hk
  obtain ⟨l,h1,h2,h3⟩:=zq5 hb off (k*sz') wa
  refine ⟨_,cap,l,rfl,h1,h2,fun i j hi hj=>?_⟩
  have hlt:i*sz'+(j+1)≤k*sz':=Zo hi hj
  rw [h3 _ wa]
  exact hr i j wa hj
theorem zq6 {w:World} {A:Nat→Option Nat} {I:Nat→Prop} {els:List (List AV)} {sz k:Nat} {l:List Value} (hone:∀ e ∈ els,e.all AV.one=true) (hev:Even sz els) (hk:k≤els.length) (hl:l.length=k*sz)
  (hr:∀ i j,i<k→j<sz→Rep w A I ((els.getD i []).getD j .nilptr) (l.getD (i*sz+j) undef)):∀ u ∈ l,u.oneCell'=true:=by
 intro u hu
 obtain ⟨q,hq,rfl⟩:=List.mem_iff_getElem.1 hu
 have hsz:0<sz:=by
  rcases Nat.eq_zero_or_pos sz with h | h
  ·subst h; rw [Nat.mul_zero] at hl; omega
  ·exact h
 have hi:q / sz<k:=by rw [Nat.div_lt_iff_lt_mul hsz]; omega
 have hj:q % sz<sz:=Nat.mod_lt _ hsz
 have hqe:q / sz*sz+q % sz=q:=by rw [Nat.mul_comm]; exact Nat.div_add_mod q sz
 have:=hr (q / sz) (q % sz) hi hj
 rw [hqe] at this
 have e:l.getD q undef=l[q]:=by simp [List.getD,hq]
 rw [e] at this
 refine this.one ?_
 have hm:=getD_mem els (q / sz) [] wa
 have hm2:=Q2 hev (show q / sz<els.length by omega)
 exact List.all_eq_true.1 (hone _ hm) _ (getD_mem _ _ _ wa)
theorem zwT {X Y:List (List AV)} {i:Nat} : (X++Y).getD i []=if i<X.length then X.getD i [] else Y.getD (i-X.length) []:=by
 simp only [List.getD,List.getElem?_append]
 split<;>rfl
theorem zq7 {w:World} {A:Nat→Option Nat} {I:Nat→Prop} {X Y:List (List AV)} {sz n m:Nat} {arr:Array Value} (hX:n=X.length) (hY:m=Y.length) (h1:∀ i j,i<n→j<sz→Rep w A I ((X.getD i []).getD j .nilptr) (arr.getD (i*sz+j) undef))
  (h2:∀ i j,i<m→j<sz→Rep w A I ((Y.getD i []).getD j .nilptr) (arr.getD (n*sz+(i*sz+j)) undef)):∀ i j,i<(X++Y).length→j<sz→Rep w A I (((X++Y).getD i []).getD j .nilptr) (arr.getD (i*sz+j) undef):=by
 intro i j hi hj
 rw [zwT]
 by_cases h:i<X.length
 ·rw [wc h]; exact h1 i j wa hj
 ·rw [we h]
  have:=h2 (i-X.length) j (by simp at hi; omega) hj
  have e:n*sz+((i-X.length)*sz+j)=i*sz+j:=by
   rw [← Nat.add_assoc,← Nat.add_mul]; congr 2; omega
  rw [e] at this; exact this
theorem zwU (T e sz bytes:Nat) (x y:Operand) (z:Nat) (els:List (List AV)) (zs:List AV) (ho:o.op = .call ⟨.builtin .append,#[x,y],#[T,T]⟩) (hT:P.underlying T=some (.slice e)) (hz:qR P e zs)
  (hsz:(P.info? e).map (fun i=>(i.size,i.bytes))=some (sz,bytes)) (hzl:zs.length=sz) (hd:dlt o N=true) (hw:wnt ops o s.G=some true) (hfr:s.V z = .fresh)
  (hx:opd s.G x=some .nilsl) (hy:opd s.G y=some (.sl els)) (hev:Even sz els) (h0:0<els.length) (hmax:els.length≤maxLen) (hby:els.length*bytes≤140737488355328) :
  Snd P ops o N s ⟨gsl ops o++[x,y].flatMap opr,o.dst,some (.row z sz 0 els.length),[z],[(z,.rw e sz els)]⟩:=by
 refine qY (fun t ht=>List.mem_append_left _ ht) hw ?_
 intro E s' hag a w A I c
 have hz':s'.V z = .fresh:=(hag.2 z wb).trans hfr
 have hx':=c.opd ((qo hag x fun t ht=>List.mem_append_right _ (by simp; exact .inl ht)).trans hx)
 have hy':=c.opd ((qo hag y fun t ht=>List.mem_append_right _ (by simp; exact .inr ht)).trans hy)
 obtain ⟨i,z0,hi,hzz,hsz2,hz⟩:=hz
 have hs:i.size=sz∧i.bytes=bytes:=by simpa [hi] using hsz
 obtain ⟨ad,cap,l,hye,hl,hcell,hrep⟩:=zm7 hy' hev h0 els.length (Nat.le_refl _)
 generalize hq:a.eval x=q at hx'
 cases hx'
 have hmax':(els.length:Int)≤9223372036854775807:=by simp only [maxLen] at hmax; omega
 have hrun:=run_append_nil (P:=P) (w:=w) T o.type e i z0 hT hi hzz ad els.length cap l (by rw [hs.1]; exact hl) hcell h0 hmax' (by rw [hs.2]; omega)
 have c1:=c.drew
 have hge:=grownCap_ge w els.length 0 e
 have hgm:=grownCap_le_maxLen w els.length 0 e hmax
 have hzc:(Builtin.zeroCells z0.cells (grownCap w els.length 0 e-els.length)).size=(grownCap w els.length 0 e-els.length)*sz:=by simp [Builtin.zeroCells,hsz2,hzl]
 have hbs:(l.toArray++Builtin.zeroCells z0.cells (grownCap w els.length 0 e-els.length)).size=grownCap w els.length 0 e*sz:=by
  rw [Array.size_append,hzc]; simp only [List.size_toArray,hl]; rw [← Nat.add_mul]; congr 1; omega
 refine ⟨.slice (some ⟨w.heap.size,0,none⟩) els.length (grownCap w els.length 0 e),w.drew.alloc (.cells (l.toArray++Builtin.zeroCells z0.cells (grownCap w els.length 0 e-els.length)) e),upd A z (some w.drew.heap.size),I,?_,
  c1.alloc z hz' _ (.rw e sz els) o.dst (some (.row z sz 0 els.length)) _ (qA hd) (fun v hv=>?_) fun u=>?_⟩
 ·simp only [execOp,ho,resolve,invoke,builtin,Sem.run_bind,Sem.run_pure,Result.andThen_ok]
  have e1:Array.map a.eval #[x,y] = #[.slice none 0 0,.slice (some ad) els.length cap]:=by simp [hq,hye]
  rw [e1,hrun]
  simp
 ·cases hv
  exact .row z sz 0 _ _ w.heap.size _ e (0,0) _ (zT _ _ _) (QE w.drew _) hge (fun _=>wb) (by rw [hbs]; simp) wa
 ·refine ⟨w.heap.size,_,zT _ _ _,QE w.drew _,hev,by rw [hbs]; exact Nat.mul_le_mul_right _ hge,fun p j hp hj=>?_,fun h=>Nat.lt_irrefl _ (c.imm _ h),.inr c.frm.size⟩
  have hlt:p*sz+(j+1)≤els.length*sz:=Zo hp hj
  have e2:(l.toArray++Builtin.zeroCells z0.cells (grownCap w els.length 0 e-els.length)).getD (p*sz+j) undef=l.getD (p*sz+j) undef:=by
   simp only [Array.getD_eq_getD_getElem?,List.getD]
   rw [Array.getElem?_append_left (by simp; omega)]; simp
  rw [e2]
  have u0:Up E w A I w.drew A I:=⟨Shp.refl w,fun _ _=>rfl,Nat.le_refl _,rfl,rfl,rfl,fun _ _ h=>h,fun _ h=>h,fun _ _ _=>rfl,fun _ h=>.inl h⟩
  exact u.rep (u0.rep (hrep p j hp hj))
theorem zwV (T e sz bytes:Nat) (x y:Operand) (xn z n:Nat) (X els:List (List AV)) (zs:List AV) (ho:o.op = .call ⟨.builtin .append,#[x,y],#[T,T]⟩) (hT:P.underlying T=some (.slice e)) (hz:qR P e zs)
  (hsz:(P.info? e).map (fun i=>(i.size,i.bytes))=some (sz,bytes)) (hzl:zs.length=sz) (hd:dlt o N=true) (hw:wnt ops o s.G=some true) (hfr:s.V z = .fresh)
  (hx:opd s.G x=some (.row xn sz 0 n)) (hX:s.V xn = .rw e sz X) (hn:n=X.length) (hy:opd s.G y=some (.sl els)) (hev:Even sz els) (hone:∀ e ∈ els,e.all AV.one=true) (h0:0<els.length)
  (hmax:n+els.length≤maxLen) (hby:(n+els.length)*bytes≤140737488355328) :
  Snd P ops o N s ⟨gsl ops o++[x,y].flatMap opr,o.dst,some (.row z sz 0 (n+els.length)),[z,xn],[(z,.rw e sz (X++els)),(xn,.dead)]⟩:=by
 refine qY (fun t ht=>List.mem_append_left _ ht) hw ?_
 intro E s' hag a w A I c
 have hz':s'.V z = .fresh:=(hag.2 z wb).trans hfr
 have hXn:s'.V xn = .rw e sz X:=(hag.2 xn wb).trans hX
 have hne:z≠xn:=by rintro rfl; rw [hz'] at hXn; cases hXn
 have hx':=c.opd ((qo hag x fun t ht=>List.mem_append_right _ (by simp; exact .inl ht)).trans hx)
 have hy':=c.opd ((qo hag y fun t ht=>List.mem_append_right _ (by simp; exact .inr ht)).trans hy)
 obtain ⟨i,z0,hi,hzz,hsz2,hz⟩:=hz
 have hs:i.size=sz∧i.bytes=bytes:=by simpa [hi] using hsz
 obtain ⟨ad,cap,l,hye,hl,hcell,hrep⟩:=zm7 hy' hev h0 els.length (Nat.le_refl _)
 have hh:=c.hv xn
 rw [hXn] at hh
 obtain ⟨b,arr,g1,g2,g3,g4,g5,g6,g7⟩:=hh
 have hevX:Even sz (X++els):=fun q hq=>(List.mem_append.1 hq).elim (g3 q) (hev q)
 have hmax':((n+els.length:Nat):Int)≤9223372036854775807:=by simp only [maxLen] at hmax; omega
 have hpatch:∀ (v:AV),({ rs:=gsl ops o++[x,y].flatMap opr,d:=o.dst,dv:=some v,rv:=[z,xn],wv:=[(z,.rw e sz (X++els)),(xn,.dead)] } : Ev).patch s'=St.set ⟨s'.G,upd (upd s'.V xn .dead) z (.rw e sz (X++els))⟩ o.dst (some v):=fun v=>rfl
 rw [hpatch]
 generalize hq:a.eval x=q at hx'
 have e1:∀ q0,a.eval x=q0→Array.map a.eval #[x,y] = #[q0,.slice (some ad) els.length cap]:=fun q0 h=>by simp [h,hye]
 cases hx' with
 | row _ _ _ _ capx b' arr' U fr adx hA hb hnc ha hc hm=>
  rw [g1] at hA; cases hA
  rw [g2] at hb; cases hb
  simp only [Nat.zero_add,Nat.zero_mul] at ha hc
  by_cases hroom:n+els.length≤capx
  ·
   have hadx:=ha wa
   subst hadx
   have hle:(n+els.length)*sz≤capx*sz:=Nat.mul_le_mul_right _ hroom
   rw [Nat.add_mul] at hle
   have hrun:=run_append_room (P:=P) (w:=w) T o.type e i hT hi b n capx arr g2 ad els.length cap l (by rw [hs.1]; exact hl) hcell (zq6 hone hev (Nat.le_refl _) hl hrep) hroom (by rw [hs.1]; omega)
   rw [hs.1] at hrun
   have hset:w.setRow b (arr.toList.take (n*sz)++l++arr.toList.drop (n*sz+l.length)).toArray=w.setRow b (arr.toList.take (n*sz)++l++arr.toList.drop (n*sz+l.length)).toArray:=rfl
   generalize hnew:(arr.toList.take (n*sz)++l++arr.toList.drop (n*sz+l.length)).toArray=new at hrun hset
   have hnsz:new.size=arr.size:=by rw [← hnew]; simp; omega
   have hheap:(w.setRow b new).heap[b]? = some (.cells new e (0,0)):=by simp [World.setRow,Array.getElem?_modify,g2]
   have hgetl:∀ k,k<n*sz→new.getD k undef=arr.getD k undef:=by
    intro k hk
    rw [← hnew]
    simp only [Array.getD_eq_getD_getElem?,List.getElem?_toArray]
    rw [List.append_assoc,List.getElem?_append_left (by simp; omega),List.getElem?_take_of_lt hk]; simp
   have hgetr:∀ k,k<els.length*sz→new.getD (n*sz+k) undef=l.getD k undef:=by
    intro k hk
    rw [← hnew]
    simp only [Array.getD_eq_getD_getElem?,List.getElem?_toArray,List.getD]
    rw [List.append_assoc,List.getElem?_append_right (by simp; omega),List.getElem?_append_left (by simp; omega)]
    congr 2; simp; omega
   have c1:=c.change (w':=w.setRow b new) xn b (by rw [hXn]; trivial) g1 (fun k hk=>by simp [World.setRow,Array.getElem?_modify,show ¬b=k from fun h=>hk h.symm]) (by simp [World.setRow]) rfl rfl rfl
    (fun arr1 T1 fr1 h=>by rw [g2] at h; cases h; exact ⟨new,hheap,hnsz⟩) (.rw e sz (X++els)) none none undef (fun t ht=>by cases ht) (fun _ v hv=>by cases hv) (fun u=>by
     refine ⟨b,new,g1,hheap,hevX,by rw [List.length_append,Nat.add_mul,hnsz,← hn]; omega,?_,g6,g7⟩
     refine zq7 (n:=n) (m:=els.length) hn rfl (fun p j hp hj=>?_) fun p j hp hj=>?_
     ·have hlt:p*sz+(j+1)≤n*sz:=Zo hp hj
      rw [hgetl _ wa]; exact u.rep (g5 p j wa hj)
     ·have hlt:p*sz+(j+1)≤els.length*sz:=Zo hp hj
      rw [hgetr _ wa]; exact u.rep (hrep p j hp hj))
   have hon:((upd s'.V xn (.rw e sz (X++els))) xn).on:=by rw [zT]; trivial
   obtain ⟨u2,c2⟩:=Con.rename (s:=⟨s'.G,upd s'.V xn (.rw e sz (X++els))⟩) c1 xn z hon (by show upd s'.V xn _ z=_; rw [qn _ _ hne]; exact hz')
   have hVeq:upd (upd (upd s'.V xn (.rw e sz (X++els))) xn .dead) z (upd s'.V xn (.rw e sz (X++els)) xn)=upd (upd s'.V xn .dead) z (.rw e sz (X++els)):=by
    rw [zT]; congr 1; funext y; simp only [upd]; split<;>rfl
   have c3:Con E N ⟨s'.G,upd (upd s'.V xn .dead) z (.rw e sz (X++els))⟩ a (w.setRow b new) (upd A z (A xn)) I:=by
    rw [← hVeq]; exact c2
   refine ⟨.slice (some ⟨b,0,none⟩) (n+els.length) capx,w.setRow b new,upd A z (A xn),I,?_,c3.pure o.dst (some (.row z sz 0 (n+els.length))) _ (qA hd) fun v hv=>?_⟩
   ·simp only [execOp,ho,resolve,invoke,builtin,Sem.run_bind,Sem.run_pure,Result.andThen_ok]
    rw [e1 _ hq,hrun]
    simp
   ·cases hv
    exact .row z sz 0 _ capx b new e (0,0) _ ((zT _ _ _).trans g1) hheap hroom (fun _=>wb) (by rw [hnsz]; simpa using hc) wa
  ·
   have hgrow:capx<n+els.length:=wa
   have c1:=c.drew
   have u0:Up E w A I w.drew A I:=⟨Shp.refl w,fun _ _=>rfl,Nat.le_refl _,rfl,rfl,rfl,fun _ _ h=>h,fun _ h=>h,fun _ _ _=>rfl,fun _ h=>.inl h⟩
   have hge:=grownCap_ge w (n+els.length) capx e
   have hgm:=grownCap_le_maxLen w (n+els.length) capx e hmax
   have hXle:n*sz≤arr.size:=by rw [hn]; exact g4
   have build:∀ (olds:List Value),olds.length=n*sz→(∀ k,k<n*sz→olds.getD k undef=arr.getD k undef)→∀ q0:Value,a.eval x=q0→
     (Builtin.append_ #[T,T] o.type #[q0,.slice (some ad) els.length cap]).run P w = .ok (.slice (some ⟨w.heap.size,0,none⟩) (n+els.length) (grownCap w (n+els.length) capx e)) (w.drew.alloc (.cells (olds.toArray++l.toArray++Builtin.zeroCells z0.cells (grownCap w (n+els.length) capx e-(n+els.length))) e))→
     ∃ x w' A' I',(execOp a.eval o).run P w = .ok (.value x) w'∧Con E N (St.set ⟨s'.G,upd (upd s'.V xn .dead) z (.rw e sz (X++els))⟩ o.dst (some (.row z sz 0 (n+els.length)))) (a.put o.dst x) w' A' I':=by
    intro olds hol hog q0 hq0 hrun
    have hzc:(Builtin.zeroCells z0.cells (grownCap w (n+els.length) capx e-(n+els.length))).size=(grownCap w (n+els.length) capx e-(n+els.length))*sz:=by simp [Builtin.zeroCells,hsz2,hzl]
    generalize hblk:olds.toArray++l.toArray++Builtin.zeroCells z0.cells (grownCap w (n+els.length) capx e-(n+els.length))=blk at hrun
    have hbs:blk.size=grownCap w (n+els.length) capx e*sz:=by
     rw [← hblk,Array.size_append,Array.size_append,hzc]; simp only [List.size_toArray,hl,hol]; rw [← Nat.add_mul,← Nat.add_mul]; congr 1; omega
    have cd:Con E N ⟨s'.G,upd s'.V xn .dead⟩ a w.drew A I:={ c1 with
     hv:=fun y=>by
      show Holds E w.drew A I y (upd s'.V xn .dead y)
      by_cases ey:y=xn
      ·subst ey; rw [zT]; trivial
      ·rw [qn _ _ ey]; exact c1.hv y
     inj:=fun p q k hp hq=>by
      have key:∀ y,(upd s'.V xn .dead y).on→(s'.V y).on:=by
       intro y hy
       by_cases ey:y=xn
       ·subst ey; rw [zT] at hy; exact hy.elim
       ·rw [qn _ _ ey] at hy; exact hy
      exact c1.inj p q k (key p hp) (key q hq) }
    refine ⟨.slice (some ⟨w.heap.size,0,none⟩) (n+els.length) (grownCap w (n+els.length) capx e),w.drew.alloc (.cells blk e),upd A z (some w.drew.heap.size),I,?_,
     Con.alloc (s:=⟨s'.G,upd s'.V xn .dead⟩) cd z (by show upd s'.V xn .dead z=_; rw [qn _ _ hne]; exact hz') _ (.rw e sz (X++els)) o.dst (some (.row z sz 0 (n+els.length))) _ (qA hd) (fun v hv=>?_) fun u=>?_⟩
    ·simp only [execOp,ho,resolve,invoke,builtin,Sem.run_bind,Sem.run_pure,Result.andThen_ok]
     rw [e1 _ hq0,hrun]
     simp
    ·cases hv
     exact .row z sz 0 _ _ w.heap.size _ e (0,0) _ (zT _ _ _) (QE w.drew _) hge (fun _=>wb) (by rw [hbs]; simp) wa
    ·refine ⟨w.heap.size,_,zT _ _ _,QE w.drew _,hevX,by rw [hbs,List.length_append,← hn]; exact Nat.mul_le_mul_right _ hge,?_,fun h=>Nat.lt_irrefl _ (c.imm _ h),.inr c.frm.size⟩
     refine zq7 (n:=n) (m:=els.length) hn rfl (fun p j hp hj=>?_) fun p j hp hj=>?_
     ·have hlt:p*sz+(j+1)≤n*sz:=Zo hp hj
      have e2:blk.getD (p*sz+j) undef=arr.getD (p*sz+j) undef:=by
       rw [← hog _ wa,← hblk]
       simp only [Array.getD_eq_getD_getElem?,List.getD]
       rw [Array.append_assoc,Array.getElem?_append_left (by simp; omega)]; simp
      rw [e2]; exact u.rep (u0.rep (g5 p j wa hj))
     ·have hlt:p*sz+(j+1)≤els.length*sz:=Zo hp hj
      have e2:blk.getD (n*sz+(p*sz+j)) undef=l.getD (p*sz+j) undef:=by
       rw [← hblk]
       simp only [Array.getD_eq_getD_getElem?,List.getD]
       rw [Array.append_assoc,Array.getElem?_append_right (by simp; omega),Array.getElem?_append_left (by simp; omega)]
       simp [hol]
      rw [e2]; exact u.rep (u0.rep (hrep p j hp hj))
   cases adx with
   | none=>
    have hc0:capx=0:=Decidable.byContradiction fun h=>by have:=ha wa; cases this
    have hn0:n=0:=wa
    have hrun:=run_append_nil (P:=P) (w:=w) T o.type e i z0 hT hi hzz ad els.length cap l (by rw [hs.1]; exact hl) hcell h0 wa (by rw [hs.2]; rw [hn0,Nat.zero_add] at hby; omega)
    refine build [] (by rw [hn0]; simp) (fun k hk=>by rw [hn0] at hk; omega) _ hq ?_
    rw [hn0,hc0]
    simpa [hn0,hc0] using hrun
   | some adv=>
    by_cases hc0:capx=0
    ·have hn0:n=0:=wa
     have hrun:=run_append_grow (P:=P) (w:=w) T o.type e i z0 hT hi hzz adv n capx [] (by rw [hn0]; simp) (fun j v h=>by simp at h) ad els.length cap l (by rw [hs.1]; exact hl) hcell hgrow hmax'
      (by rw [hs.2]; have h1:=nextslicecap_le (need:=n+els.length) (old:=capx) hgrow; have h2:=Nat.mul_le_mul_right bytes h1; rw [Nat.mul_assoc] at h2; omega)
     exact build [] (by rw [hn0]; simp) (fun k hk=>by rw [hn0] at hk; omega) _ hq hrun
    ·have:=ha wa
     cases this
     obtain ⟨olds,h1,h2,h3⟩:=zq5 g2 0 (n*sz) wa
     have hrun:=run_append_grow (P:=P) (w:=w) T o.type e i z0 hT hi hzz ⟨b,0,none⟩ n capx olds (by rw [hs.1]; exact h1) h2 ad els.length cap l (by rw [hs.1]; exact hl) hcell hgrow hmax'
      (by rw [hs.2]; have h1:=nextslicecap_le (need:=n+els.length) (old:=capx) hgrow; have h2:=Nat.mul_le_mul_right bytes h1; rw [Nat.mul_assoc] at h2; omega)
     exact build olds h1 (fun k hk=>by rw [h3 k hk,Nat.zero_add]) _ hq hrun
end ops
end Go.Abs
