/- Printed by geng.py: a call does what the plain function says. -/
import Derived.Test.YtoakhpdeadglpaaGreatChebFallsGenK
set_option linter.unusedVariables false
set_option linter.unusedSimpArgs false
set_option maxRecDepth 4000
set_option synthInstance.maxSize 4000
set_option synthInstance.maxHeartbeats 400000
namespace Go.Proofs.YtoakhpdeadglpaaGreat.Gen
open Go Go.Abs Go.Proofs Go.Proofs.Tryz
instance cheb_degree_i (a0:Int):PC (cheb_degree a0) Tryz.prog 96 [(.int .i64 a0)] (fun r=>(.bool r)):=pc func96 (by kernel_rfl) rfl fun E=>by
 unfold cheb_degree
 refine .g 6 rfl<|?_
 refine .cut (fun x:Bool=>(cheb_degree_j1 x,[eB 2 x],[])) ?_ ?_
 ·rintro y2
  dsimp only [cheb_degree_j1]
  refine .g 2 rfl<|.fi rfl rfl
 ·intro h2
  refine .g 4 rfl<|?_
  refine .gd 5 rfl (fun _=>?_) fun _=>?_
  ·refine .g 5 rfl<|.jw (h2 (decide (a0≤16))) [] rfl
  ·refine .g 5 rfl<|.jw (h2 false) [] rfl
instance iv_New_i (a0:Int):CC (iv_New a0) Tryz.prog 26 [(.int .i64 a0)] [] (fun r=>(match r with | (Sum.inl y)=>(.tup [.nilptr,(.int .i64 y)]) | (Sum.inr y)=>(.tup [(.ptr 0 0),(.int .i64 y.1)]))) (fun r=>(match r with | (Sum.inl y)=>[.dead] | (Sum.inr y)=>[(.live 53 [(.int .i64 y.2.1),(.int .i64 y.2.2)])])):=cc func26 (by kernel_rfl) rfl fun E=>by
 unfold iv_New
 refine .g 8 rfl<|?_
 refine .cut (fun x:Bool=>(iv_New_j1 a0 x,[eI 0 a0,eB 9 x],[])) ?_ ?_
 ·rintro y2
  dsimp only [iv_New_j1]
  refine .g 1 rfl<|?_
  refine .cd rfl (fun _ _=>?_) fun _ _=>?_
  ·refine .g 8 rfl<|.fi rfl rfl
  ·refine .g 12 rfl<|.fi rfl rfl
 ·intro h4
  refine .g 4 rfl<|?_
  refine .gd 6 rfl (fun _=>?_) fun _=>?_
  ·refine .g 4 rfl<|.jw (h4 true) [] rfl
  ·refine .g 4 rfl<|.jw (h4 (decide (a0>400))) [] rfl
theorem iv_New_k_0 {a0:Int} {r:Int} (h:iv_New a0=some (Sum.inl r)):Cal Tryz.prog 26 [(.int .i64 a0)] [] (.tup [.nilptr,(.int .i64 r)]) [.dead]:=CC.h h
theorem iv_New_k_1 {a0:Int} {r:Int × Int × Int} (h:iv_New a0=some (Sum.inr r)):Cal Tryz.prog 26 [(.int .i64 a0)] [] (.tup [(.ptr 0 0),(.int .i64 r.1)]) [(.live 53 [(.int .i64 r.2.1),(.int .i64 r.2.2)])]:=CC.h h
instance nat_trim_i (a0:List Int):PC (nat_trim a0) Tryz.prog 263 [(slK (kInt .u32) a0)] (fun r=>(slK (kInt .u32) r)):=pc func263 (by kernel_rfl) rfl fun E=>by
 unfold nat_trim
 refine .g 2 rfl<|.st rfl (as0 rfl) rfl<|.g 3 rfl<|?_
 refine .cut (fun x:(List Int)=>(nat_trim_j1 x,[eL 0 x],[])) ?_ ?_
 ·rintro y17
  dsimp only [nat_trim_j1]
  refine .g 8 rfl<|.fi rfl rfl
 ·intro h25
  refine .g 1 rfl<|?_
  refine .lp (fun n (x:(List Int))=>nat_trim_l2 n x) (fun x=>([eL 0 x],[])) a0 [] rfl ?_
  rintro n2 y21
  try dsimp only
  rw [nat_trim_l2]
  refine .g 2 rfl<|?_
  refine .cut (fun x:Bool=>(nat_trim_j3 y21 (fun z0=>nat_trim_l2 n2 z0) x,[eL 0 y21,eB 14 x],[])) ?_ ?_
  ·rintro y22
   dsimp only [nat_trim_j3]
   refine .g 1 rfl<|?_
   refine .cd rfl (fun _ _=>?_) fun _ _=>?_
   ·refine .g 6 rfl<|.ln rfl rfl<|.g 1 rfl<|.guard fun h47=>.sv (slK (kInt .u32) (y21.take ((IntKind.i64.wrap ((y21.length:Int)-1)).toNat))) [] rfl (snd_sliceK (kInt .u32) _ _ _ _ _ _ 0 (IntKind.i64.wrap ((y21.length:Int)-1)) rfl underlying22 si117 rfl rfl rfl rfl rfl h47) rfl<|.g 3 rfl<|.ag (y21.take ((IntKind.i64.wrap ((y21.length:Int)-1)).toNat)) [] rfl
   ·refine .g 4 rfl<|.jw (h25 y21) [] rfl
  ·intro h48
   refine .g 2 rfl<|.ln rfl rfl<|.g 2 rfl<|?_
   refine .gd 6 rfl (fun _=>?_) fun _=>?_
   ·refine .g 2 rfl<|.ln rfl rfl<|.g 1 rfl<|.ix rfl rfl<|.g 4 rfl<|.jw (h48 ((y21.getD ((IntKind.i64.wrap ((y21.length:Int)-1)).toNat) (kInt .u32).z) == 0)) [] rfl
   ·refine .g 9 rfl<|.jw (h48 false) [] rfl
instance nat_From_i (a0:Int):PC (nat_From a0) Tryz.prog 222 [(.int .u64 a0)] (fun r=>(slK (kInt .u32) r)):=pc func222 (by kernel_rfl) rfl fun E=>by
 unfold nat_From
 refine .g 2 rfl<|.st rfl (as0 rfl) rfl<|.g 9 rfl<|.st rfl (bs (kInt .u32) [(IntKind.u32.wrap a0),(IntKind.u32.wrap (shrI .u64 a0 32))] rfl rfl) rfl<|.p0 rfl rfl fun x2 _=>.g 4 rfl<|.fi rfl rfl
theorem slCl_c (l:List Int):∀ r,slCl l=some r→ACalls Tryz.prog 302 [slK (kInt .u32) l] (lw []) (slK (kInt .u32) r) (ld []):=by
 unfold slCl
 refine acalls_go (R:=List Int) (res:=fun r=>slK (kInt .u32) r) (V1:=fun r=>[]) [(0,some (slK (kInt .u32) l))] [] 0 func302 rfl ntmps302 rfl rfl rfl rfl ?_
 intro E hE
 refine T.seq ?_
 refine T.region ?_
 refine TR.guard (fun hp=>?_)
 refine TR.st 2 (slK (kInt .u32) []) [] (Snd.le (snd_assign _ _ rfl rfl rfl rfl) AVle.nil) rfl rfl rfl ?_
 refine TR.nil ?_
 refine TQ.seq ?_
 refine T.seq ?_
 refine T.seq ?_
 refine T.region ?_
 refine TR.st 3 _ [] (snd_move _ _ rfl rfl rfl rfl) rfl rfl rfl ?_
 cases l with
 | nil=>
  refine TR.sl_nil 4 _ _ _ _ _ rfl underlying22 rfl rfl rfl rfl rfl (fun b=>?_)
  refine TR.nil ?_
  refine TQ.seq ?_
  refine T.cond_any rfl ?_ ?_
  ·skip
   refine T.seq ?_
   refine T.region ?_
   refine TR.st 2 (slK (kInt .u32) []) [] (Snd.le (snd_assign _ _ rfl rfl rfl rfl) AVle.nil) rfl rfl rfl ?_
   refine TR.nil ?_
   refine TQ.seq ?_
   refine T.ret ?_
   refine TQ.seq_ret ?_
   exact fin_1 (.inr rfl) (.nil _) results302 (.tmp 2 _ rfl) (AVle.refl _)
  ·skip
   refine T.skip ?_
   refine TQ.seq ?_
   refine T.seq ?_
   refine T.region ?_
   refine TR.st 5 (.row 0 (kInt .u32).sz 0 ([]:List Int).length) [(0,rwK (kInt .u32) 117 [])] (snd_buildSlice0 (kInt .u32) _ _ 0 rfl underlying22 si117 rfl rfl rfl) rfl rfl rfl ?_
   refine TR.st 6 _ [] (snd_move _ _ rfl rfl rfl rfl) rfl rfl rfl ?_
   refine TR.st 7 _ [] (snd_append_none (kInt .u32) _ _ _ _ 0 0 rfl underlying22 si117 rfl rfl rfl rfl) rfl rfl rfl ?_
   refine TR.st 2 _ [] (snd_assign _ _ rfl rfl rfl rfl) rfl rfl rfl ?_
   refine TR.nil ?_
   refine TQ.seq ?_
   refine T.ret ?_
   refine TQ.weak ?_ (fun a w h=>Conc.freezeK (kInt .u32) h 2 0 0 (([]:List Int)).length 117 ([]:List Int) rfl rfl (by omega))
   refine TQ.weak ?_ (fun a w h=>take_all h)
   exact fin_1 (.inr rfl) (.nil _) results302 (.tmp 2 _ rfl) (AVle.refl _)
 | cons c l=>
  refine TR.st 4 (.bool false) [] (snd_sl_nil _ _ _ _ _ _ rfl underlying22 rfl rfl rfl (Nat.succ_pos _) rfl) rfl rfl rfl ?_
  refine TR.nil ?_
  refine TQ.seq ?_
  refine T.cond_f rfl ?_
  ·skip
   refine T.skip ?_
   refine TQ.seq ?_
   refine T.seq ?_
   refine T.region ?_
   refine TR.st 5 (.row 0 (kInt .u32).sz 0 ([]:List Int).length) [(0,rwK (kInt .u32) 117 [])] (snd_buildSlice0 (kInt .u32) _ _ 0 rfl underlying22 si117 rfl rfl rfl) rfl rfl rfl ?_
   refine TR.st 6 _ [] (snd_move _ _ rfl rfl rfl rfl) rfl rfl rfl ?_
   refine TR.st 7 (.row 1 (kInt .u32).sz 0 ([]++(c :: l)).length) [(1,rwK (kInt .u32) 117 ([]++(c :: l))),(0,.dead)] (snd_appendK (kInt .u32) _ _ _ _ _ 0 1 [] (c :: l) rfl underlying22 ze117 sb117 rfl rfl rfl rfl rfl rfl (by simp only [List.length_cons,List.length_nil] at hp ⊢; omega)) rfl rfl rfl ?_
   refine TR.st 2 _ [] (snd_assign _ _ rfl rfl rfl rfl) rfl rfl rfl ?_
   refine TR.nil ?_
   refine TQ.seq ?_
   refine T.ret ?_
   refine TQ.weak ?_ (fun a w h=>Conc.freezeK (kInt .u32) h 2 1 0 ((c :: l)).length 117 (c :: l) rfl rfl (by omega))
   refine TQ.weak ?_ (fun a w h=>take_all h)
   exact fin_1 (.inr rfl) (.nil _) results302 (.tmp 2 _ rfl) (AVle.refl _)
instance slCl_i (l:List Int):PC (slCl l) Tryz.prog 302 [slK (kInt .u32) l] (fun r=>slK (kInt .u32) r):=⟨fun r h=>⟨⟨_,func302,by kernel_rfl,rfl⟩,slCl_c l r h,fun _=>DtL.h _,fun _=>Dt.h _⟩⟩
instance nat_Trim_i (a0:List Int):PC (nat_Trim a0) Tryz.prog 225 [(slK (kInt .u32) a0)] (fun r=>(slK (kInt .u32) r)):=pc func225 (by kernel_rfl) rfl fun E=>by
 unfold nat_Trim
 refine .g 2 rfl<|.st rfl (as0 rfl) rfl<|.g 5 rfl<|.p0 rfl rfl fun x3 _=>.p0 rfl rfl fun x4 _=>.g 4 rfl<|.fi rfl rfl
instance zint_of_i (a0:ApiInt):PC (zint_of a0) Tryz.prog 172 [(.agg (kN.enc a0))] (fun r=>(.agg (kZintSigned.enc (⟨((r).size),(r).neg⟩:ZintSigned)))):=pc func172 (by kernel_rfl) rfl fun E=>by
 unfold zint_of
 refine .g 10 rfl<|.p0 rfl rfl fun x3 _=>.g 4 rfl<|?_
 refine .cut (fun x:Bool=>(zint_of_j1 x3 x,[eP 2 1],[(1,(.live 197 [(slK (kInt .u32) x3),(.bool x)]))])) ?_ ?_
 ·rintro y4
  dsimp only [zint_of_j1]
  refine .g 2 rfl<|.fi rfl rfl
 ·intro h3
  refine .g 6 rfl<|?_
  refine .gd 11 rfl (fun _=>?_) fun _=>?_
  ·refine .g 1 rfl<|.ln rfl rfl<|.g 5 rfl<|.jw (h3 (decide ((x3.length:Int)>0))) [(1,1)] rfl
  ·refine .g 7 rfl<|.jw (h3 false) [(1,1)] rfl
instance zint_size_zero_i (a0:ZintSize):PC (zint_size_zero a0) Tryz.prog 333 [(.agg (kZintSize.enc a0))] (fun r=>(.bool r)):=pc func333 (by kernel_rfl) rfl fun E=>by
 unfold zint_size_zero
 refine .g 10 rfl<|.ln rfl rfl<|.g 5 rfl<|.fi rfl rfl
instance zint_signed_out_i (a0:ZintSigned):PC (zint_signed_out a0) Tryz.prog 275 [(.agg (kZintSigned.enc a0))] (fun r=>(.agg (kN.enc (r)))):=pc func275 (by kernel_rfl) rfl fun E=>by
 unfold zint_signed_out
 refine .g 7 rfl<|?_
 refine .cut (fun x:Bool=>(zint_signed_out_j1 a0 x,[eP 2 1],[(1,(.live 24 [(.bool x),(slK (kInt .u32) a0.size.mag)]))])) ?_ ?_
 ·rintro y5
  dsimp only [zint_signed_out_j1]
  refine .g 2 rfl<|.fi rfl rfl
 ·intro h3
  refine .g 4 rfl<|?_
  refine .gd 5 rfl (fun _=>?_) fun _=>?_
  ·refine .g 2 rfl<|.p0 rfl rfl fun x6 _=>.g 7 rfl<|.dn (by kernel_rfl)<|.jw (h3 (!x6)) [(1,1)] rfl
  ·refine .g 10 rfl<|.dn (by kernel_rfl)<|.jw (h3 false) [(1,1)] rfl
instance zint_Make_i (a0:Bool) (a1:List Int):PC (zint_Make a0 a1) Tryz.prog 188 [(.bool a0),(slK (kInt .u32) a1)] (fun r=>(.agg (kN.enc (r)))):=pc func188 (by kernel_rfl) rfl fun E=>by
 unfold zint_Make
 refine .g 10 rfl<|.p0 rfl rfl fun x3 _=>.p0 rfl rfl fun x4 _=>.g 4 rfl<|.fi rfl rfl
instance zint_From_i (a0:Int):PC (zint_From a0) Tryz.prog 132 [(.int .i64 a0)] (fun r=>(.agg (kN.enc (r)))):=pc func132 (by kernel_rfl) rfl fun E=>by
 unfold zint_From
 refine .g 19 rfl<|?_
 refine .cut (fun x:Int=>(zint_From_j1 a0 x,[eI 0 a0,eP 2 0,eX 3 x],[(0,(.live 24 [(.bool false),(slK (kInt .u32) [])]))])) ?_ ?_
 ·rintro y4
  dsimp only [zint_From_j1]
  refine .g 6 rfl<|.p0 rfl rfl fun x5 _=>.p0 rfl rfl fun x6 _=>.g 4 rfl<|.fi rfl rfl
 ·intro h5
  refine .cd rfl (fun _ _=>?_) fun _ _=>?_
  ·refine .g 5 rfl<|.jw (h5 (IntKind.u64.wrap (0-(IntKind.u64.wrap a0)))) [(0,0)] rfl
  ·refine .g 1 rfl<|.jw (h5 (IntKind.u64.wrap a0)) [(0,0)] rfl
instance nat_Bit_i (a0:List Int) (a1:Int):PC (nat_Bit a0 a1) Tryz.prog 226 [(slK (kInt .u32) a0),(.int .i64 a1)] (fun r=>(.bool r)):=pc func226 (by kernel_rfl) rfl fun E=>by
 unfold nat_Bit
 refine .g 6 rfl<|?_
 refine .cut (fun x:Bool=>(nat_Bit_j1 x,[eB 4 x],[])) ?_ ?_
 ·rintro y2
  dsimp only [nat_Bit_j1]
  refine .g 2 rfl<|.fi rfl rfl
 ·intro h5
  refine .g 4 rfl<|?_
  refine .gd 7 rfl (fun _=>?_) fun _=>?_
  ·refine .g 3 rfl<|.ln rfl rfl<|.g 3 rfl<|?_
   refine .gd 14 rfl (fun _=>?_) fun _=>?_
   ·refine .g 3 rfl<|.ix rfl rfl<|.g 3 rfl<|.guard fun h9=>.st rfl (snd_shl _ _ _ _ _ _ _ _ rfl rfl rfl rfl rfl h9) rfl<|.g 4 rfl<|.dn (by kernel_rfl)<|.jw (h5 ((andI .u32 (a0.getD ((IntKind.i64.wrap (a1.tdiv 32)).toNat) (kInt .u32).z) (shlI .u32 1 (a1.tmod 32))) != 0)) [] rfl
   ·refine .g 12 rfl<|.dn (by kernel_rfl)<|.jw (h5 false) [] rfl
  ·refine .g 19 rfl<|.dn (by kernel_rfl)<|.jw (h5 false) [] rfl
instance nat_Shr_i (a0:List Int) (a1:Int):PC (nat_Shr a0 a1) Tryz.prog 227 [(slK (kInt .u32) a0),(.int .i64 a1)] (fun r=>(slK (kInt .u32) r)):=pc func227 (by kernel_rfl) rfl fun E=>by
 unfold nat_Shr
 refine .g 2 rfl<|.st rfl (as0 rfl) rfl<|.g 5 rfl<|.p0 rfl rfl fun x25 _=>.g 10 rfl<|?_
 refine .cd rfl (fun _ _=>?_) fun _ _=>?_
 ·refine .g 3 rfl<|.p0 rfl rfl fun x26 _=>.g 5 rfl<|.fi rfl rfl
 ·refine .g 8 rfl<|.ln rfl rfl<|.g 3 rfl<|?_
  refine .cd rfl (fun _ _=>?_) fun _ _=>?_
  ·refine .g 2 rfl<|.st rfl (as0 rfl) rfl<|.g 4 rfl<|.fi rfl rfl
  ·refine .g 7 rfl<|.guard fun h7=>.sv (slK (kInt .u32) ((x25.take x25.length).drop ((IntKind.i64.wrap (a1.tdiv 32)).toNat))) [] rfl (snd_sliceK (kInt .u32) _ _ _ _ _ _ (IntKind.i64.wrap (a1.tdiv 32)) (x25.length:Int) rfl underlying22 si117 rfl rfl rfl rfl rfl h7) rfl<|.g 6 rfl<|.ln rfl rfl<|.guard fun h8=>.sv (.row 0 (kInt .u32).sz 0 (((List.replicate (((x25.take x25.length).drop ((IntKind.i64.wrap (a1.tdiv 32)).toNat)).length) (kInt .u32).z)).length)) [(0,(rwK (kInt .u32) 117 (List.replicate (((x25.take x25.length).drop ((IntKind.i64.wrap (a1.tdiv 32)).toNat)).length) (kInt .u32).z)))] rfl (snd_makeK (kInt .u32) _ _ _ _ _ 0 _ _ _ rfl underlying22 ze117 sb117 (by decide) rfl rfl rfl rfl rfl h8) rfl<|.g 7 rfl<|.ln rfl rfl<|.g 3 rfl<|?_
   refine .cut (fun x:(List Int)=>(nat_Shr_j1 x,[(5,some (.row 0 (kInt .u32).sz 0 ((x).length)))],[(0,(rwK (kInt .u32) 117 x))])) ?_ ?_
   ·rintro y37
    dsimp only [nat_Shr_j1]
    refine .g 2 rfl<|?_
    refine .weak ?_ (fun a w h=>Conc.freezeK (kInt .u32) h 5 0 0 ((y37).length) 117 y37 rfl rfl (by omega))
    refine .weak ?_ (fun a w h=>take_all h)
    refine .g 2 rfl<|.p0 rfl rfl fun x38 _=>.g 4 rfl<|.fi rfl rfl
   ·intro h70
    refine .g 1 rfl<|?_
    refine .lp (fun n (x:Int × (List Int))=>nat_Shr_l2 x25 a1 n x.1 x.2) (fun x=>([eL 0 ((x25.take x25.length).drop ((IntKind.i64.wrap (a1.tdiv 32)).toNat)),eI 1 a1,(5,some (.row 0 (kInt .u32).sz 0 ((x.2).length))),eI 27 (((x25.take x25.length).drop ((IntKind.i64.wrap (a1.tdiv 32)).toNat)).length:Int),eI 28 x.1],[(0,(rwK (kInt .u32) 117 x.2))])) (0,(List.replicate (((x25.take x25.length).drop ((IntKind.i64.wrap (a1.tdiv 32)).toNat)).length) (kInt .u32).z)) [(0,0)] rfl ?_
    rintro n2 ⟨y45,y46⟩
    try dsimp only
    rw [nat_Shr_l2]
    refine .g 6 rfl<|?_
    refine .cd rfl (fun _ _=>?_) fun _ _=>?_
    ·refine .g 14 rfl<|.ix rfl rfl<|.g 11 rfl<|.ln rfl rfl<|.g 3 rfl<|?_
     refine .cut (fun x:Int=>(nat_Shr_j3 a1 y45 y46 (fun z0 z1=>nat_Shr_l2 x25 a1 n2 z0 z1) x,[eL 0 ((x25.take x25.length).drop ((IntKind.i64.wrap (a1.tdiv 32)).toNat)),eI 1 a1,(5,some (.row 0 (kInt .u32).sz 0 ((y46).length))),eI 6 y45,eX 7 x,eI 27 (((x25.take x25.length).drop ((IntKind.i64.wrap (a1.tdiv 32)).toNat)).length:Int),eI 28 y45],[(0,(rwK (kInt .u32) 117 y46))])) ?_ ?_
     ·rintro y48
      dsimp only [nat_Shr_j3]
      refine .g 7 rfl<|.guard fun h126=>.st rfl (snd_shr _ _ _ _ _ _ _ _ rfl rfl rfl rfl rfl h126) rfl<|.g 1 rfl<|.guard fun h127=>?_
      obtain ⟨h1271,h1272⟩:=h127
      refine .sv (.rptr 0 (kInt .u32).sz y45.toNat 0) [] rfl (idx_r (snd_index_r _ _ _ _ _ 0 0 ((y46).length) _ y45 rfl underlying22 si117 rfl rfl rfl rfl h1271 (by omega)) (Nat.zero_add _)) rfl<|.sm [(0,(rwK (kInt .u32) 117 ((y46).set y45.toNat (IntKind.u32.wrap (shrI .u64 y48 (a1.tmod 32))))))] rfl (snd_storeK_sca (kInt .u32) _ _ _ 0 y45.toNat _ _ (IntKind.u32.wrap (shrI .u64 y48 (a1.tmod 32))) _ rfl rfl rfl sc117 rfl rfl rfl rfl rfl rfl (by first | omega | (simp only [List.length_set]; omega))) rfl<|?_
      refine .weak ?_ (fun a w h=>Conc.relen h 5 ((((y46).set y45.toNat (IntKind.u32.wrap (shrI .u64 y48 (a1.tmod 32))))).length) rfl List.length_set.symm)
      refine .g 7 rfl<|.ag ((IntKind.i64.wrap (y45+1)),((y46).set y45.toNat (IntKind.u32.wrap (shrI .u64 y48 (a1.tmod 32))))) [(0,0)] rfl
     ·intro h128
      refine .cd rfl (fun _ _=>?_) fun _ _=>?_
      ·refine .g 5 rfl<|.ix rfl rfl<|.g 6 rfl<|.jw (h128 (orI .u64 (IntKind.u64.wrap (((x25.take x25.length).drop ((IntKind.i64.wrap (a1.tdiv 32)).toNat)).getD y45.toNat (kInt .u32).z)) (shlI .u64 (IntKind.u64.wrap (((x25.take x25.length).drop ((IntKind.i64.wrap (a1.tdiv 32)).toNat)).getD ((IntKind.i64.wrap (y45+1)).toNat) (kInt .u32).z)) 32))) [(0,0)] rfl
      ·refine .g 1 rfl<|.jw (h128 (IntKind.u64.wrap (((x25.take x25.length).drop ((IntKind.i64.wrap (a1.tdiv 32)).toNat)).getD y45.toNat (kInt .u32).z))) [(0,0)] rfl
    ·refine .g 4 rfl<|.jw (h70 y46) [(0,0)] rfl
instance dyad_norm_i (a0:Bool) (a1:List Int) (a2:Int):PC (dyad_norm a0 a1 a2) Tryz.prog 138 [(.bool a0),(slK (kInt .u32) a1),(.int .i64 a2)] (fun r=>(.agg (kD.enc (⟨((r).M),(r).E⟩:AD)))):=pc func138 (by kernel_rfl) rfl fun E=>by
 unfold dyad_norm
 refine .g 8 rfl<|.p0 rfl rfl fun x20 _=>.g 7 rfl<|.ln rfl rfl<|.g 3 rfl<|?_
 refine .cd rfl (fun _ _=>?_) fun _ _=>?_
 ·refine .g 8 rfl<|.fi rfl rfl
 ·refine .g 8 rfl<|?_
  refine .cut (fun x:Int=>(dyad_norm_j1 x20 a0 a2 x,[eB 0 a0,eL 1 x20,eI 2 a2,eP 6 0,eI 7 x],[(0,(.live 26 [(.bool false),(slK (kInt .u32) []),(.int .i64 0)]))])) ?_ ?_
  ·rintro y23
   dsimp only [dyad_norm_j1]
   refine .g 2 rfl<|?_
   refine .cut (fun x:Int=>(dyad_norm_j2 x20 a0 a2 x,[eB 0 a0,eL 1 x20,eI 2 a2,eP 6 0,eI 7 x],[(0,(.live 26 [(.bool false),(slK (kInt .u32) []),(.int .i64 0)]))])) ?_ ?_
   ·rintro y29
    dsimp only [dyad_norm_j2]
    refine .g 6 rfl<|.p0 rfl rfl fun x30 _=>.p0 rfl rfl fun x31 _=>.g 8 rfl<|.fi rfl rfl
   ·intro h24
    refine .g 1 rfl<|?_
    refine .lp (fun n (x:Int)=>dyad_norm_l3 x20 a0 a2 n x) (fun x=>([eB 0 a0,eL 1 x20,eI 2 a2,eP 6 0,eI 7 x],[(0,(.live 26 [(.bool false),(slK (kInt .u32) []),(.int .i64 0)]))])) y23 [(0,0)] rfl ?_
    rintro n3 y35
    try dsimp only
    rw [dyad_norm_l3]
    refine .g 5 rfl<|.p0 rfl rfl fun x36 _=>.g 3 rfl<|?_
    refine .cd rfl (fun _ _=>?_) fun _ _=>?_
    ·refine .g 9 rfl<|.ag (IntKind.i64.wrap (y35+1)) [(0,0)] rfl
    ·refine .g 4 rfl<|.jw (h24 y35) [(0,0)] rfl
  ·intro h34
   refine .g 1 rfl<|?_
   refine .lp (fun n (x:Int)=>dyad_norm_l4 x20 a0 a2 n x) (fun x=>([eB 0 a0,eL 1 x20,eI 2 a2,eP 6 0,eI 7 x],[(0,(.live 26 [(.bool false),(slK (kInt .u32) []),(.int .i64 0)]))])) 0 [(0,0)] rfl ?_
   rintro n4 y38
   try dsimp only
   rw [dyad_norm_l4]
   refine .g 6 rfl<|.ix rfl rfl<|.g 4 rfl<|?_
   refine .cd rfl (fun _ _=>?_) fun _ _=>?_
   ·refine .g 9 rfl<|.ag (IntKind.i64.wrap (y38+32)) [(0,0)] rfl
   ·refine .g 4 rfl<|.jw (h34 y38) [(0,0)] rfl
instance dyad_From_i (a0:Int):PC (dyad_From a0) Tryz.prog 53 [(.int .i64 a0)] (fun r=>(.agg (kD.enc (⟨((r).M),(r).E⟩:AD)))):=pc func53 (by kernel_rfl) rfl fun E=>by
 unfold dyad_From
 refine .g 8 rfl<|.p0 rfl rfl fun x3 _=>.g 10 rfl<|.p0 rfl rfl fun x4 _=>.g 4 rfl<|.fi rfl rfl
instance zint_Right_i (a0:ApiInt):PC (zint_Right a0) Tryz.prog 170 [(.agg (kN.enc a0))] (fun r=>(.bool r)):=pc func170 (by kernel_rfl) rfl fun E=>by
 unfold zint_Right
 refine .g 11 rfl<|.ln rfl rfl<|.g 3 rfl<|?_
 refine .cd rfl (fun _ _=>?_) fun _ _=>?_
 ·refine .g 10 rfl<|.fi rfl rfl
 ·refine .g 8 rfl<|.ln rfl rfl<|.g 1 rfl<|.ix rfl rfl<|.g 6 rfl<|.fi rfl rfl
instance dyad_zero_i (a0:AD):PC (dyad_zero a0) Tryz.prog 79 [(.agg (kD.enc a0))] (fun r=>(.bool r)):=pc func79 (by kernel_rfl) rfl fun E=>by
 unfold dyad_zero
 refine .g 11 rfl<|.ln rfl rfl<|.g 5 rfl<|.fi rfl rfl
instance dyad_within_i (a0:Int) (a1:Int) (a2:Int):PC (dyad_within a0 a1 a2) Tryz.prog 171 [(.int .i64 a0),(.int .i64 a1),(.int .i64 a2)] (fun r=>(.bool r)):=pc func171 (by kernel_rfl) rfl fun E=>by
 unfold dyad_within
 refine .g 6 rfl<|?_
 refine .cut (fun x:Bool=>(dyad_within_j1 x,[eB 6 x],[])) ?_ ?_
 ·rintro y2
  dsimp only [dyad_within_j1]
  refine .g 2 rfl<|.fi rfl rfl
 ·intro h2
  refine .g 5 rfl<|?_
  refine .gd 10 rfl (fun _=>?_) fun _=>?_
  ·refine .g 6 rfl<|.jw (h2 (decide (a0≤a2))) [] rfl
  ·refine .g 6 rfl<|.jw (h2 false) [] rfl
instance dyad_Right_i (a0:AD):PC (dyad_Right a0) Tryz.prog 78 [(.agg (kD.enc a0))] (fun r=>(.bool r)):=pc func78 (by kernel_rfl) rfl fun E=>by
 unfold dyad_Right
 refine .g 11 rfl<|.p0 rfl rfl fun x6 _=>.g 3 rfl<|?_
 refine .cd rfl (fun _ _=>?_) fun _ _=>?_
 ·refine .g 7 rfl<|.fi rfl rfl
 ·refine .g 6 rfl<|.p0 rfl rfl fun x7 _=>.g 2 rfl<|?_
  refine .cd rfl (fun _ _=>?_) fun _ _=>?_
  ·refine .g 10 rfl<|.fi rfl rfl
  ·refine .g 3 rfl<|?_
   refine .cut (fun x:Bool=>(dyad_Right_j1 x,[eB 2 x],[])) ?_ ?_
   ·rintro y9
    dsimp only [dyad_Right_j1]
    refine .g 2 rfl<|.fi rfl rfl
   ·intro h10
    refine .g 4 rfl<|.ix rfl rfl<|.g 4 rfl<|?_
    refine .gd 19 rfl (fun _=>?_) fun _=>?_
    ·refine .g 2 rfl<|.p0 rfl rfl fun x10 _=>.g 3 rfl<|.jw (h10 x10) [] rfl
    ·refine .g 6 rfl<|.jw (h10 false) [] rfl
instance nat_Cmp_i (a0:List Int) (a1:List Int):PC (nat_Cmp a0 a1) Tryz.prog 173 [(slK (kInt .u32) a0),(slK (kInt .u32) a1)] (fun r=>(.int .i64 r)):=pc func173 (by kernel_rfl) rfl fun E=>by
 unfold nat_Cmp
 refine .g 8 rfl<|.p0 rfl rfl fun x7 _=>.g 1 rfl<|.p0 rfl rfl fun x8 _=>.g 8 rfl<|.ln rfl rfl<|.g 1 rfl<|.ln rfl rfl<|.g 3 rfl<|?_
 refine .cd rfl (fun _ _=>?_) fun _ _=>?_
 ·refine .g 4 rfl<|.ln rfl rfl<|.g 1 rfl<|.ln rfl rfl<|.g 3 rfl<|?_
  refine .cd rfl (fun _ _=>?_) fun _ _=>?_
  ·refine .g 8 rfl<|.fi rfl rfl
  ·refine .g 9 rfl<|.fi rfl rfl
 ·refine .g 6 rfl<|.ln rfl rfl<|.g 3 rfl<|?_
  refine .cut (fun x:Unit=>(nat_Cmp_j1,[],[])) ?_ ?_
  ·rintro _
   dsimp only [nat_Cmp_j1]
   refine .g 7 rfl<|.fi rfl rfl
  ·intro h73
   refine .g 1 rfl<|?_
   refine .lp (fun n (x:Int)=>nat_Cmp_l2 x7 x8 n x) (fun x=>([eL 0 x7,eL 1 x8,eI 23 (x7.length:Int),eI 24 x],[])) 0 [] rfl ?_
   rintro n2 y12
   try dsimp only
   rw [nat_Cmp_l2]
   refine .g 6 rfl<|?_
   refine .cd rfl (fun _ _=>?_) fun _ _=>?_
   ·refine .g 14 rfl<|.ln rfl rfl<|.g 3 rfl<|.ix rfl rfl<|.g 3 rfl<|.ln rfl rfl<|.g 3 rfl<|.ix rfl rfl<|.g 3 rfl<|.dn (by kernel_rfl)<|.g 10 rfl<|?_
    refine .cd rfl (fun _ _=>?_) fun _ _=>?_
    ·refine .g 12 rfl<|.fi rfl rfl
    ·refine .g 8 rfl<|?_
     refine .cd rfl (fun _ _=>?_) fun _ _=>?_
     ·refine .g 12 rfl<|.fi rfl rfl
     ·refine .g 8 rfl<|.ag (IntKind.i64.wrap (y12+1)) [] rfl
   ·refine .g 4 rfl<|.jw (h73 ()) [] rfl
instance zint_Cmp_i (a0:ApiInt) (a1:ApiInt):PC (zint_Cmp a0 a1) Tryz.prog 80 [(.agg (kN.enc a0)),(.agg (kN.enc a1))] (fun r=>(.int .i64 r)):=pc func80 (by kernel_rfl) rfl fun E=>by
 unfold zint_Cmp
 refine .g 10 rfl<|.p0 rfl rfl fun x14 _=>.g 1 rfl<|.p0 rfl rfl fun x15 _=>.g 4 rfl<|.dn (by kernel_rfl)<|.g 4 rfl<|?_
 refine .cut (fun x:Bool=>(zint_Cmp_j1 x14 x15 x,[eP 5 2,eP 6 3,eB 11 x],[(2,(.live 197 [(slK (kInt .u32) (((x14).size).mag)),(.bool ((x14).neg))])),(3,(.live 197 [(slK (kInt .u32) (((x15).size).mag)),(.bool ((x15).neg))]))])) ?_ ?_
 ·rintro y21
  dsimp only [zint_Cmp_j1]
  refine .g 1 rfl<|?_
  refine .cd rfl (fun _ _=>?_) fun _ _=>?_
  ·refine .g 8 rfl<|.fi rfl rfl
  ·refine .g 10 rfl<|?_
   refine .cd rfl (fun _ _=>?_) fun _ _=>?_
   ·refine .g 8 rfl<|.fi rfl rfl
   ·refine .g 7 rfl<|?_
    refine .cut (fun x:(List Int) × Bool × (List Int) × Bool=>(zint_Cmp_j2 x.1 x.2.1 x.2.2.1 x.2.2.2,[eP 5 2,eP 6 3],[(2,(.live 197 [(slK (kInt .u32) x.1),(.bool x.2.1)])),(3,(.live 197 [(slK (kInt .u32) x.2.2.1),(.bool x.2.2.2)]))])) ?_ ?_
    ·rintro ⟨y22,y23,y24,y25⟩
     dsimp only [zint_Cmp_j2]
     refine .g 10 rfl<|.p0 rfl rfl fun x26 _=>.g 4 rfl<|.fi rfl rfl
    ·intro h21
     refine .cd rfl (fun _ _=>?_) fun _ _=>?_
     ·refine .g 6 rfl<|.jw (h21 (((x15).size).mag,(x15).neg,((x14).size).mag,(x14).neg)) [(2,2),(3,3)] rfl
     ·refine .g 1 rfl<|.jw (h21 (((x14).size).mag,(x14).neg,((x15).size).mag,(x15).neg)) [(2,2),(3,3)] rfl
 ·intro h24
  refine .g 7 rfl<|?_
  refine .gd 17 rfl (fun _=>?_) fun _=>?_
  ·refine .g 5 rfl<|.jw (h24 (x14).neg) [(2,2),(3,3)] rfl
  ·refine .g 5 rfl<|.jw (h24 false) [(2,2),(3,3)] rfl
instance mb_Len32_i (a0:Int):PC (mb_Len32 a0) Tryz.prog 264 [(.int .u32 a0)] (fun r=>(.int .i64 r)):=pc func264 (by kernel_rfl) rfl fun E=>by
 unfold mb_Len32
 refine .g 12 rfl<|?_
 refine .cut (fun x:Int × Int=>(mb_Len32_j1 x.1 x.2,[eW 0 x.1,eI 2 x.2],[])) ?_ ?_
 ·rintro ⟨y6,y7⟩
  dsimp only [mb_Len32_j1]
  refine .g 8 rfl<|?_
  refine .cut (fun x:Int × Int=>(mb_Len32_j2 x.1 x.2,[eW 0 x.1,eI 2 x.2],[])) ?_ ?_
  ·rintro ⟨y8,y9⟩
   dsimp only [mb_Len32_j2]
   refine .g 6 rfl<|.bind fun b10 h5=>.sv (.int .u8 (b10.toNat:Int)) [] rfl (snd_index_s _ _ _ _ _ _ _ rfl underlying9 rfl rfl rfl rfl (str_lo h5) (str_at h5)) rfl<|.g 6 rfl<|.fi rfl rfl
  ·intro h6
   refine .cd rfl (fun _ _=>?_) fun _ _=>?_
   ·refine .g 12 rfl<|.jw (h6 ((shrI .u32 y6 8),(IntKind.i64.wrap (y7+8)))) [] rfl
   ·refine .g 1 rfl<|.jw (h6 (y6,y7)) [] rfl
 ·intro h9
  refine .cd rfl (fun _ _=>?_) fun _ _=>?_
  ·refine .g 10 rfl<|.jw (h9 ((shrI .u32 a0 16),16)) [] rfl
  ·refine .g 1 rfl<|.jw (h9 (a0,0)) [] rfl
instance nat_Bits_i (a0:List Int):PC (nat_Bits a0) Tryz.prog 165 [(slK (kInt .u32) a0)] (fun r=>(.int .i64 r)):=pc func165 (by kernel_rfl) rfl fun E=>by
 unfold nat_Bits
 refine .g 8 rfl<|.p0 rfl rfl fun x3 _=>.g 7 rfl<|.ln rfl rfl<|.g 3 rfl<|?_
 refine .cd rfl (fun _ _=>?_) fun _ _=>?_
 ·refine .g 7 rfl<|.fi rfl rfl
 ·refine .g 5 rfl<|.ln rfl rfl<|.g 4 rfl<|.ln rfl rfl<|.g 1 rfl<|.ix rfl rfl<|.g 1 rfl<|.p0 rfl rfl fun x4 _=>.g 5 rfl<|.fi rfl rfl
instance dyad_size_i (a0:AD):PC (dyad_size a0) Tryz.prog 81 [(.agg (kD.enc a0))] (fun r=>(.int .i64 r)):=pc func81 (by kernel_rfl) rfl fun E=>by
 unfold dyad_size
 refine .g 13 rfl<|.p0 rfl rfl fun x2 _=>.g 2 rfl<|.dn (by kernel_rfl)<|.g 2 rfl<|.fi rfl rfl
instance zint_Neg_i (a0:ApiInt):PC (zint_Neg a0) Tryz.prog 95 [(.agg (kN.enc a0))] (fun r=>(.agg (kN.enc (r)))):=pc func95 (by kernel_rfl) rfl fun E=>by
 unfold zint_Neg
 refine .g 13 rfl<|.p0 rfl rfl fun x2 _=>.g 4 rfl<|.fi rfl rfl
instance dyad_Neg_i (a0:AD):PC (dyad_Neg a0) Tryz.prog 35 [(.agg (kD.enc a0))] (fun r=>(.agg (kD.enc (⟨((r).M),(r).E⟩:AD)))):=pc func35 (by kernel_rfl) rfl fun E=>by
 unfold dyad_Neg
 refine .g 10 rfl<|.p0 rfl rfl fun x3 _=>.g 3 rfl<|?_
 refine .cd rfl (fun _ _=>?_) fun _ _=>?_
 ·refine .g 8 rfl<|.fi rfl rfl
 ·refine .g 6 rfl<|.p0 rfl rfl fun x4 _=>.g 4 rfl<|.dn (by kernel_rfl)<|.g 2 rfl<|.fi rfl rfl
instance nat_Shl_i (a0:List Int) (a1:Int):PC (nat_Shl a0 a1) Tryz.prog 269 [(slK (kInt .u32) a0),(.int .i64 a1)] (fun r=>(.tup [(slK (kInt .u32) r.1),(.bool r.2)])):=pc func269 (by kernel_rfl) rfl fun E=>by
 unfold nat_Shl
 refine .g 2 rfl<|.st rfl (as0 rfl) rfl<|.g 5 rfl<|?_
 refine .cut (fun x:Bool=>(nat_Shl_j1 a0 a1 x,[eL 0 a0,eI 1 a1,eB 15 x],[])) ?_ ?_
 ·rintro y13
  dsimp only [nat_Shl_j1]
  refine .g 1 rfl<|?_
  refine .cd rfl (fun _ _=>?_) fun _ _=>?_
  ·refine .g 2 rfl<|.st rfl (as0 rfl) rfl<|.g 5 rfl<|.fi rfl rfl
  ·refine .g 5 rfl<|.p0 rfl rfl fun x14 _=>.g 8 rfl<|.ln rfl rfl<|.g 2 rfl<|.guard fun h5=>.sv (.row 0 (kInt .u32).sz 0 (((List.replicate ((IntKind.i64.wrap ((IntKind.i64.wrap ((IntKind.i64.wrap (a1.tdiv 32))+(x14.length:Int)))+1)).toNat) (kInt .u32).z)).length)) [(0,(rwK (kInt .u32) 117 (List.replicate ((IntKind.i64.wrap ((IntKind.i64.wrap ((IntKind.i64.wrap (a1.tdiv 32))+(x14.length:Int)))+1)).toNat) (kInt .u32).z)))] rfl (snd_makeK (kInt .u32) _ _ _ _ _ 0 _ _ _ rfl underlying22 ze117 sb117 (by decide) rfl rfl rfl rfl rfl h5) rfl<|.g 7 rfl<|.ln rfl rfl<|.g 3 rfl<|?_
   refine .cut (fun x:(List Int)=>(nat_Shl_j2 x,[(6,some (.row 0 (kInt .u32).sz 0 ((x).length)))],[(0,(rwK (kInt .u32) 117 x))])) ?_ ?_
   ·rintro y19
    dsimp only [nat_Shl_j2]
    refine .g 2 rfl<|?_
    refine .weak ?_ (fun a w h=>Conc.freezeK (kInt .u32) h 6 0 0 ((y19).length) 117 y19 rfl rfl (by omega))
    refine .weak ?_ (fun a w h=>take_all h)
    refine .g 2 rfl<|.p0 rfl rfl fun x20 _=>.g 5 rfl<|.fi rfl rfl
   ·intro h43
    refine .g 1 rfl<|?_
    refine .lp (fun n (x:Int × (List Int))=>nat_Shl_l3 x14 a1 n x.1 x.2) (fun x=>([eI 1 a1,(6,some (.row 0 (kInt .u32).sz 0 ((x.2).length))),eL 25 x14,eI 26 (x14.length:Int),eI 27 x.1],[(0,(rwK (kInt .u32) 117 x.2))])) (0,(List.replicate ((IntKind.i64.wrap ((IntKind.i64.wrap ((IntKind.i64.wrap (a1.tdiv 32))+(x14.length:Int)))+1)).toNat) (kInt .u32).z)) [(0,0)] rfl ?_
    rintro n3 ⟨y23,y24⟩
    try dsimp only
    rw [nat_Shl_l3]
    refine .g 6 rfl<|?_
    refine .cd rfl (fun _ _=>?_) fun _ _=>?_
    ·refine .g 7 rfl<|.ix rfl rfl<|.g 11 rfl<|.guard fun h76=>.st rfl (snd_shl _ _ _ _ _ _ _ _ rfl rfl rfl rfl rfl h76) rfl<|.g 10 rfl<|.guard fun h77=>?_
     obtain ⟨h771,h772⟩:=h77
     refine .sv (.rptr 0 (kInt .u32).sz ((IntKind.i64.wrap ((IntKind.i64.wrap (a1.tdiv 32))+y23)).toNat) 0) [] rfl (idx_r (snd_index_r _ _ _ _ _ 0 0 ((y24).length) _ (IntKind.i64.wrap ((IntKind.i64.wrap (a1.tdiv 32))+y23)) rfl underlying22 si117 rfl rfl rfl rfl h771 (by omega)) (Nat.zero_add _)) rfl<|.sv (.int .u32 ((y24).getD ((IntKind.i64.wrap ((IntKind.i64.wrap (a1.tdiv 32))+y23)).toNat) (kInt .u32).z)) [] rfl (snd_loadK_sca (kInt .u32) _ _ 0 ((IntKind.i64.wrap ((IntKind.i64.wrap (a1.tdiv 32))+y23)).toNat) 0 _ _ rfl sc117 rfl rfl rfl rfl (by first | omega | (simp only [List.length_set]; omega)) (by decide)) rfl<|.g 3 rfl<|.guard fun h78=>?_
     obtain ⟨h781,h782⟩:=h78
     refine .sv (.rptr 0 (kInt .u32).sz ((IntKind.i64.wrap ((IntKind.i64.wrap (a1.tdiv 32))+y23)).toNat) 0) [] rfl (idx_r (snd_index_r _ _ _ _ _ 0 0 ((y24).length) _ (IntKind.i64.wrap ((IntKind.i64.wrap (a1.tdiv 32))+y23)) rfl underlying22 si117 rfl rfl rfl rfl h781 (by omega)) (Nat.zero_add _)) rfl<|.sm [(0,(rwK (kInt .u32) 117 ((y24).set ((IntKind.i64.wrap ((IntKind.i64.wrap (a1.tdiv 32))+y23)).toNat) (orI .u32 ((y24).getD ((IntKind.i64.wrap ((IntKind.i64.wrap (a1.tdiv 32))+y23)).toNat) (kInt .u32).z) (IntKind.u32.wrap (shlI .u64 (IntKind.u64.wrap (x14.getD y23.toNat (kInt .u32).z)) (a1.tmod 32)))))))] rfl (snd_storeK_sca (kInt .u32) _ _ _ 0 ((IntKind.i64.wrap ((IntKind.i64.wrap (a1.tdiv 32))+y23)).toNat) _ _ (orI .u32 ((y24).getD ((IntKind.i64.wrap ((IntKind.i64.wrap (a1.tdiv 32))+y23)).toNat) (kInt .u32).z) (IntKind.u32.wrap (shlI .u64 (IntKind.u64.wrap (x14.getD y23.toNat (kInt .u32).z)) (a1.tmod 32)))) _ rfl rfl rfl sc117 rfl rfl rfl rfl rfl rfl (by first | omega | (simp only [List.length_set]; omega))) rfl<|?_
     refine .weak ?_ (fun a w h=>Conc.relen h 6 ((((y24).set ((IntKind.i64.wrap ((IntKind.i64.wrap (a1.tdiv 32))+y23)).toNat) (orI .u32 ((y24).getD ((IntKind.i64.wrap ((IntKind.i64.wrap (a1.tdiv 32))+y23)).toNat) (kInt .u32).z) (IntKind.u32.wrap (shlI .u64 (IntKind.u64.wrap (x14.getD y23.toNat (kInt .u32).z)) (a1.tmod 32)))))).length) rfl List.length_set.symm)
     refine .g 12 rfl<|.guard fun h79=>?_
     obtain ⟨h791,h792⟩:=h79
     refine .sv (.rptr 0 (kInt .u32).sz ((IntKind.i64.wrap ((IntKind.i64.wrap ((IntKind.i64.wrap (a1.tdiv 32))+y23))+1)).toNat) 0) [] rfl (idx_r (snd_index_r _ _ _ _ _ 0 0 ((((y24).set ((IntKind.i64.wrap ((IntKind.i64.wrap (a1.tdiv 32))+y23)).toNat) (orI .u32 ((y24).getD ((IntKind.i64.wrap ((IntKind.i64.wrap (a1.tdiv 32))+y23)).toNat) (kInt .u32).z) (IntKind.u32.wrap (shlI .u64 (IntKind.u64.wrap (x14.getD y23.toNat (kInt .u32).z)) (a1.tmod 32)))))).length) _ (IntKind.i64.wrap ((IntKind.i64.wrap ((IntKind.i64.wrap (a1.tdiv 32))+y23))+1)) rfl underlying22 si117 rfl rfl rfl rfl h791 (by omega)) (Nat.zero_add _)) rfl<|.sm [(0,(rwK (kInt .u32) 117 ((((y24).set ((IntKind.i64.wrap ((IntKind.i64.wrap (a1.tdiv 32))+y23)).toNat) (orI .u32 ((y24).getD ((IntKind.i64.wrap ((IntKind.i64.wrap (a1.tdiv 32))+y23)).toNat) (kInt .u32).z) (IntKind.u32.wrap (shlI .u64 (IntKind.u64.wrap (x14.getD y23.toNat (kInt .u32).z)) (a1.tmod 32)))))).set ((IntKind.i64.wrap ((IntKind.i64.wrap ((IntKind.i64.wrap (a1.tdiv 32))+y23))+1)).toNat) (IntKind.u32.wrap (shrI .u64 (shlI .u64 (IntKind.u64.wrap (x14.getD y23.toNat (kInt .u32).z)) (a1.tmod 32)) 32)))))] rfl (snd_storeK_sca (kInt .u32) _ _ _ 0 ((IntKind.i64.wrap ((IntKind.i64.wrap ((IntKind.i64.wrap (a1.tdiv 32))+y23))+1)).toNat) _ _ (IntKind.u32.wrap (shrI .u64 (shlI .u64 (IntKind.u64.wrap (x14.getD y23.toNat (kInt .u32).z)) (a1.tmod 32)) 32)) _ rfl rfl rfl sc117 rfl rfl rfl rfl rfl rfl (by first | omega | (simp only [List.length_set]; omega))) rfl<|?_
     refine .weak ?_ (fun a w h=>Conc.relen h 6 ((((((y24).set ((IntKind.i64.wrap ((IntKind.i64.wrap (a1.tdiv 32))+y23)).toNat) (orI .u32 ((y24).getD ((IntKind.i64.wrap ((IntKind.i64.wrap (a1.tdiv 32))+y23)).toNat) (kInt .u32).z) (IntKind.u32.wrap (shlI .u64 (IntKind.u64.wrap (x14.getD y23.toNat (kInt .u32).z)) (a1.tmod 32)))))).set ((IntKind.i64.wrap ((IntKind.i64.wrap ((IntKind.i64.wrap (a1.tdiv 32))+y23))+1)).toNat) (IntKind.u32.wrap (shrI .u64 (shlI .u64 (IntKind.u64.wrap (x14.getD y23.toNat (kInt .u32).z)) (a1.tmod 32)) 32)))).length) rfl List.length_set.symm)
     refine .g 7 rfl<|.ag ((IntKind.i64.wrap (y23+1)),((((y24).set ((IntKind.i64.wrap ((IntKind.i64.wrap (a1.tdiv 32))+y23)).toNat) (orI .u32 ((y24).getD ((IntKind.i64.wrap ((IntKind.i64.wrap (a1.tdiv 32))+y23)).toNat) (kInt .u32).z) (IntKind.u32.wrap (shlI .u64 (IntKind.u64.wrap (x14.getD y23.toNat (kInt .u32).z)) (a1.tmod 32)))))).set ((IntKind.i64.wrap ((IntKind.i64.wrap ((IntKind.i64.wrap (a1.tdiv 32))+y23))+1)).toNat) (IntKind.u32.wrap (shrI .u64 (shlI .u64 (IntKind.u64.wrap (x14.getD y23.toNat (kInt .u32).z)) (a1.tmod 32)) 32)))) [(0,0)] rfl
    ·refine .g 4 rfl<|.jw (h43 y24) [(0,0)] rfl
 ·intro h80
  refine .g 4 rfl<|?_
  refine .gd 12 rfl (fun _=>?_) fun _=>?_
  ·refine .g 4 rfl<|.jw (h80 true) [] rfl
  ·refine .g 4 rfl<|.jw (h80 (decide (a1>100000))) [] rfl
instance dyad_up_i (a0:List Int) (a1:Int):PC (dyad_up a0 a1) Tryz.prog 175 [(slK (kInt .u32) a0),(.int .i64 a1)] (fun r=>(slK (kInt .u32) r)):=pc func175 (by kernel_rfl) rfl fun E=>by
 unfold dyad_up
 refine .g 2 rfl<|.st rfl (as0 rfl) rfl<|.g 3 rfl<|?_
 refine .cut (fun x:(List Int) × Int=>(dyad_up_j1 x.1 x.2,[eL 0 x.1,eI 1 x.2],[])) ?_ ?_
 ·rintro ⟨y34,y35⟩
  dsimp only [dyad_up_j1]
  refine .g 6 rfl<|.p0 rfl rfl fun x36 _=>.g 13 rfl<|.fi rfl rfl
 ·intro h14
  refine .g 1 rfl<|?_
  refine .lp (fun n (x:(List Int) × Int)=>dyad_up_l2 n x.1 x.2) (fun x=>([eL 0 x.1,eI 1 x.2],[])) (a0,a1) [] rfl ?_
  rintro n2 ⟨y43,y44⟩
  try dsimp only
  rw [dyad_up_l2]
  refine .g 7 rfl<|?_
  refine .cd rfl (fun _ _=>?_) fun _ _=>?_
  ·refine .g 6 rfl<|.p0 rfl rfl fun x46 _=>.g 12 rfl<|.ag (x46.1,(IntKind.i64.wrap (y44-100000))) [] rfl
  ·refine .g 4 rfl<|.jw (h14 (y43,y44)) [] rfl
instance mb_Add32_i (a0:Int) (a1:Int) (a2:Int):PC (mb_Add32 a0 a1 a2) Tryz.prog 324 [(.int .u32 a0),(.int .u32 a1),(.int .u32 a2)] (fun r=>(.tup [(.int .u32 r.1),(.int .u32 r.2)])):=pc func324 (by kernel_rfl) rfl fun E=>by
 unfold mb_Add32
 refine .g 35 rfl<|.fi rfl rfl
instance nat_Add_i (a0:List Int) (a1:List Int):PC (nat_Add a0 a1) Tryz.prog 267 [(slK (kInt .u32) a0),(slK (kInt .u32) a1)] (fun r=>(slK (kInt .u32) r)):=pc func267 (by kernel_rfl) rfl fun E=>by
 unfold nat_Add
 refine .g 2 rfl<|.st rfl (as0 rfl) rfl<|.g 6 rfl<|.ln rfl rfl<|.g 1 rfl<|.ln rfl rfl<|.g 3 rfl<|?_
 refine .cut (fun x:(List Int) × (List Int)=>(nat_Add_j1 x.1 x.2,[eL 0 x.1,eL 1 x.2],[])) ?_ ?_
 ·rintro ⟨y42,y43⟩
  dsimp only [nat_Add_j1]
  refine .g 4 rfl<|.ln rfl rfl<|.g 1 rfl<|.guard fun h3=>.sv (.row 0 (kInt .u32).sz 0 (((List.replicate ((IntKind.i64.wrap ((y42.length:Int)+1)).toNat) (kInt .u32).z)).length)) [(0,(rwK (kInt .u32) 117 (List.replicate ((IntKind.i64.wrap ((y42.length:Int)+1)).toNat) (kInt .u32).z)))] rfl (snd_makeK (kInt .u32) _ _ _ _ _ 0 _ _ _ rfl underlying22 ze117 sb117 (by decide) rfl rfl rfl rfl rfl h3) rfl<|.g 12 rfl<|.ln rfl rfl<|.g 3 rfl<|?_
  refine .cut (fun x:Int × (List Int)=>(nat_Add_j2 y42 x.1 x.2,[eL 0 y42,(5,some (.row 0 (kInt .u32).sz 0 ((x.2).length))),eW 6 x.1],[(0,(rwK (kInt .u32) 117 x.2))])) ?_ ?_
  ·rintro ⟨y62,y63⟩
   dsimp only [nat_Add_j2]
   refine .g 5 rfl<|.ln rfl rfl<|.g 1 rfl<|.guard fun h64=>?_
   obtain ⟨h641,h642⟩:=h64
   refine .sv (.rptr 0 (kInt .u32).sz y42.length 0) [] rfl (idx_r (snd_index_r _ _ _ _ _ 0 0 ((y63).length) _ (y42.length:Int) rfl underlying22 si117 rfl rfl rfl rfl h641 (by omega)) (Nat.zero_add _)) rfl<|.sm [(0,(rwK (kInt .u32) 117 ((y63).set y42.length y62)))] rfl (snd_storeK_sca (kInt .u32) _ _ _ 0 y42.length _ _ y62 _ rfl rfl rfl sc117 rfl rfl rfl rfl rfl rfl (by first | omega | (simp only [List.length_set]; omega))) rfl<|?_
   refine .weak ?_ (fun a w h=>Conc.relen h 5 ((((y63).set y42.length y62)).length) rfl List.length_set.symm)
   refine .g 3 rfl<|?_
   refine .weak ?_ (fun a w h=>Conc.freezeK (kInt .u32) h 5 0 0 ((((y63).set y42.length y62)).length) 117 ((y63).set y42.length y62) rfl rfl (by omega))
   refine .weak ?_ (fun a w h=>take_all h)
   refine .g 2 rfl<|.p0 rfl rfl fun x64 _=>.g 4 rfl<|.fi rfl rfl
  ·intro h66
   refine .g 1 rfl<|?_
   refine .lp (fun n (x:Int × Int × (List Int))=>nat_Add_l3 y42 y43 n x.1 x.2.1 x.2.2) (fun x=>([eL 0 y42,eL 1 y43,(5,some (.row 0 (kInt .u32).sz 0 ((x.2.2).length))),eW 6 x.1,eI 21 (y42.length:Int),eI 22 x.2.1],[(0,(rwK (kInt .u32) 117 x.2.2))])) (0,0,(List.replicate ((IntKind.i64.wrap ((y42.length:Int)+1)).toNat) (kInt .u32).z)) [(0,0)] rfl ?_
   rintro n3 ⟨y76,y77,y78⟩
   try dsimp only
   rw [nat_Add_l3]
   refine .g 6 rfl<|?_
   refine .cd rfl (fun _ _=>?_) fun _ _=>?_
   ·refine .g 20 rfl<|.ln rfl rfl<|.g 3 rfl<|?_
    refine .cut (fun x:Int=>(nat_Add_j4 y77 y42 y76 y78 (fun z0 z1 z2=>nat_Add_l3 y42 y43 n3 z0 z1 z2) x,[eL 0 y42,eL 1 y43,(5,some (.row 0 (kInt .u32).sz 0 ((y78).length))),eW 6 y76,eI 7 y77,eW 8 x,eI 21 (y42.length:Int),eI 22 y77],[(0,(rwK (kInt .u32) 117 y78))])) ?_ ?_
    ·rintro y81
     dsimp only [nat_Add_j4]
     refine .g 6 rfl<|.ix rfl rfl<|.g 3 rfl<|.p0 rfl rfl fun x82 _=>.g 3 rfl<|.guard fun h123=>?_
     obtain ⟨h1231,h1232⟩:=h123
     refine .sv (.rptr 0 (kInt .u32).sz y77.toNat 0) [] rfl (idx_r (snd_index_r _ _ _ _ _ 0 0 ((y78).length) _ y77 rfl underlying22 si117 rfl rfl rfl rfl h1231 (by omega)) (Nat.zero_add _)) rfl<|.sm [(0,(rwK (kInt .u32) 117 ((y78).set y77.toNat x82.1)))] rfl (snd_storeK_sca (kInt .u32) _ _ _ 0 y77.toNat _ _ x82.1 _ rfl rfl rfl sc117 rfl rfl rfl rfl rfl rfl (by first | omega | (simp only [List.length_set]; omega))) rfl<|?_
     refine .weak ?_ (fun a w h=>Conc.relen h 5 ((((y78).set y77.toNat x82.1)).length) rfl List.length_set.symm)
     refine .g 8 rfl<|.ag (x82.2,(IntKind.i64.wrap (y77+1)),((y78).set y77.toNat x82.1)) [(0,0)] rfl
    ·intro h124
     refine .cd rfl (fun _ _=>?_) fun _ _=>?_
     ·refine .g 3 rfl<|.ix rfl rfl<|.g 3 rfl<|.jw (h124 (y43.getD y77.toNat (kInt .u32).z)) [(0,0)] rfl
     ·refine .g 1 rfl<|.jw (h124 0) [(0,0)] rfl
   ·refine .g 4 rfl<|.jw (h66 (y76,y78)) [(0,0)] rfl
 ·intro h128
  refine .cd rfl (fun _ _=>?_) fun _ _=>?_
  ·refine .g 6 rfl<|.jw (h128 (a1,a0)) [] rfl
  ·refine .g 1 rfl<|.jw (h128 (a0,a1)) [] rfl
instance mb_Sub32_i (a0:Int) (a1:Int) (a2:Int):PC (mb_Sub32 a0 a1 a2) Tryz.prog 325 [(.int .u32 a0),(.int .u32 a1),(.int .u32 a2)] (fun r=>(.tup [(.int .u32 r.1),(.int .u32 r.2)])):=pc func325 (by kernel_rfl) rfl fun E=>by
 unfold mb_Sub32
 refine .g 34 rfl<|.fi rfl rfl
instance nat_Sub_i (a0:List Int) (a1:List Int):PC (nat_Sub a0 a1) Tryz.prog 268 [(slK (kInt .u32) a0),(slK (kInt .u32) a1)] (fun r=>(.tup [(slK (kInt .u32) r.1),(.bool r.2)])):=pc func268 (by kernel_rfl) rfl fun E=>by
 unfold nat_Sub
 refine .g 2 rfl<|.st rfl (as0 rfl) rfl<|.g 6 rfl<|.p0 rfl rfl fun x42 _=>.g 1 rfl<|.p0 rfl rfl fun x43 _=>.g 8 rfl<|.ln rfl rfl<|.g 1 rfl<|.ln rfl rfl<|.g 3 rfl<|?_
 refine .cd rfl (fun _ _=>?_) fun _ _=>?_
 ·refine .g 2 rfl<|.st rfl (as0 rfl) rfl<|.g 5 rfl<|.fi rfl rfl
 ·refine .g 5 rfl<|.ln rfl rfl<|.guard fun h5=>.sv (.row 0 (kInt .u32).sz 0 (((List.replicate x42.length (kInt .u32).z)).length)) [(0,(rwK (kInt .u32) 117 (List.replicate x42.length (kInt .u32).z)))] rfl (snd_makeK (kInt .u32) _ _ _ _ _ 0 _ _ _ rfl underlying22 ze117 sb117 (by decide) rfl rfl rfl rfl rfl h5) rfl<|.g 12 rfl<|.ln rfl rfl<|.g 3 rfl<|?_
  refine .cut (fun x:Int × (List Int)=>(nat_Sub_j1 x.1 x.2,[(6,some (.row 0 (kInt .u32).sz 0 ((x.2).length))),eW 7 x.1],[(0,(rwK (kInt .u32) 117 x.2))])) ?_ ?_
  ·rintro ⟨y62,y63⟩
   dsimp only [nat_Sub_j1]
   refine .g 8 rfl<|?_
   refine .cd rfl (fun _ _=>?_) fun _ _=>?_
   ·refine .g 2 rfl<|.st rfl (as0 rfl) rfl<|.g 5 rfl<|.fi rfl rfl
   ·refine .g 3 rfl<|?_
    refine .weak ?_ (fun a w h=>Conc.freezeK (kInt .u32) h 6 0 0 ((y63).length) 117 y63 rfl rfl (by omega))
    refine .weak ?_ (fun a w h=>take_all h)
    refine .g 2 rfl<|.p0 rfl rfl fun x64 _=>.g 5 rfl<|.fi rfl rfl
  ·intro h69
   refine .g 1 rfl<|?_
   refine .lp (fun n (x:Int × Int × (List Int))=>nat_Sub_l2 x42 x43 n x.1 x.2.1 x.2.2) (fun x=>([eL 0 x42,eL 1 x43,(6,some (.row 0 (kInt .u32).sz 0 ((x.2.2).length))),eW 7 x.1,eI 23 (x42.length:Int),eI 24 x.2.1],[(0,(rwK (kInt .u32) 117 x.2.2))])) (0,0,(List.replicate x42.length (kInt .u32).z)) [(0,0)] rfl ?_
   rintro n2 ⟨y76,y77,y78⟩
   try dsimp only
   rw [nat_Sub_l2]
   refine .g 6 rfl<|?_
   refine .cd rfl (fun _ _=>?_) fun _ _=>?_
   ·refine .g 20 rfl<|.ln rfl rfl<|.g 3 rfl<|?_
    refine .cut (fun x:Int=>(nat_Sub_j3 y77 x42 y76 y78 (fun z0 z1 z2=>nat_Sub_l2 x42 x43 n2 z0 z1 z2) x,[eL 0 x42,eL 1 x43,(6,some (.row 0 (kInt .u32).sz 0 ((y78).length))),eW 7 y76,eI 8 y77,eW 9 x,eI 23 (x42.length:Int),eI 24 y77],[(0,(rwK (kInt .u32) 117 y78))])) ?_ ?_
    ·rintro y81
     dsimp only [nat_Sub_j3]
     refine .g 6 rfl<|.ix rfl rfl<|.g 3 rfl<|.p0 rfl rfl fun x82 _=>.g 3 rfl<|.guard fun h126=>?_
     obtain ⟨h1261,h1262⟩:=h126
     refine .sv (.rptr 0 (kInt .u32).sz y77.toNat 0) [] rfl (idx_r (snd_index_r _ _ _ _ _ 0 0 ((y78).length) _ y77 rfl underlying22 si117 rfl rfl rfl rfl h1261 (by omega)) (Nat.zero_add _)) rfl<|.sm [(0,(rwK (kInt .u32) 117 ((y78).set y77.toNat x82.1)))] rfl (snd_storeK_sca (kInt .u32) _ _ _ 0 y77.toNat _ _ x82.1 _ rfl rfl rfl sc117 rfl rfl rfl rfl rfl rfl (by first | omega | (simp only [List.length_set]; omega))) rfl<|?_
     refine .weak ?_ (fun a w h=>Conc.relen h 6 ((((y78).set y77.toNat x82.1)).length) rfl List.length_set.symm)
     refine .g 8 rfl<|.ag (x82.2,(IntKind.i64.wrap (y77+1)),((y78).set y77.toNat x82.1)) [(0,0)] rfl
    ·intro h127
     refine .cd rfl (fun _ _=>?_) fun _ _=>?_
     ·refine .g 3 rfl<|.ix rfl rfl<|.g 3 rfl<|.jw (h127 (x43.getD y77.toNat (kInt .u32).z)) [(0,0)] rfl
     ·refine .g 1 rfl<|.jw (h127 0) [(0,0)] rfl
   ·refine .g 4 rfl<|.jw (h69 (y76,y78)) [(0,0)] rfl
instance zint_Add_i (a0:ApiInt) (a1:ApiInt):PC (zint_Add a0 a1) Tryz.prog 174 [(.agg (kN.enc a0)),(.agg (kN.enc a1))] (fun r=>(.agg (kN.enc (r)))):=pc func174 (by kernel_rfl) rfl fun E=>by
 unfold zint_Add
 refine .g 10 rfl<|.p0 rfl rfl fun x12 _=>.g 1 rfl<|.p0 rfl rfl fun x13 _=>.g 4 rfl<|.dn (by kernel_rfl)<|.g 11 rfl<|?_
 refine .cd rfl (fun _ _=>?_) fun _ _=>?_
 ·refine .g 10 rfl<|.p0 rfl rfl fun x14 _=>.p0 rfl rfl fun x15 _=>.g 1 rfl<|.dn (by kernel_rfl)<|.g 3 rfl<|.fi rfl rfl
 ·refine .g 11 rfl<|.p0 rfl rfl fun x16 _=>.g 3 rfl<|?_
  refine .cut (fun x:(List Int) × Bool × (List Int) × Bool=>(zint_Add_j1 x.1 x.2.1 x.2.2.1 x.2.2.2,[eP 4 2,eP 5 3,eP 6 4],[(2,(.live 24 [(.bool false),(slK (kInt .u32) [])])),(3,(.live 197 [(slK (kInt .u32) x.1),(.bool x.2.1)])),(4,(.live 197 [(slK (kInt .u32) x.2.2.1),(.bool x.2.2.2)]))])) ?_ ?_
  ·rintro ⟨y17,y18,y19,y20⟩
   dsimp only [zint_Add_j1]
   refine .g 9 rfl<|.p0 rfl rfl fun x21 _=>.g 12 rfl<|.p0 rfl rfl fun x22 _=>.g 4 rfl<|.fi rfl rfl
  ·intro h12
   refine .cd rfl (fun _ _=>?_) fun _ _=>?_
   ·refine .g 6 rfl<|.jw (h12 (((x13).size).mag,(x13).neg,((x12).size).mag,(x12).neg)) [(2,2),(3,3),(4,4)] rfl
   ·refine .g 1 rfl<|.jw (h12 (((x12).size).mag,(x12).neg,((x13).size).mag,(x13).neg)) [(2,2),(3,3),(4,4)] rfl
instance dyad_sum_i (a0:AD) (a1:AD):PC (dyad_sum a0 a1) Tryz.prog 82 [(.agg (kD.enc a0)),(.agg (kD.enc a1))] (fun r=>(.agg (kD.enc (⟨((r).M),(r).E⟩:AD)))):=pc func82 (by kernel_rfl) rfl fun E=>by
 unfold dyad_sum
 refine .g 12 rfl<|.p0 rfl rfl fun x28 _=>.g 3 rfl<|?_
 refine .cd rfl (fun _ _=>?_) fun _ _=>?_
 ·refine .g 9 rfl<|.fi rfl rfl
 ·refine .g 3 rfl<|.p0 rfl rfl fun x29 _=>.g 3 rfl<|?_
  refine .cd rfl (fun _ _=>?_) fun _ _=>?_
  ·refine .g 9 rfl<|.fi rfl rfl
  ·refine .g 10 rfl<|?_
   refine .cut (fun x:Bool × (List Int) × Int × Bool × (List Int) × Int=>(dyad_sum_j1 x.1 x.2.1 x.2.2.1 x.2.2.2.1 x.2.2.2.2.1 x.2.2.2.2.2,[eP 2 0,eP 3 1,eP 4 2],[(0,(.live 26 [(.bool x.1),(slK (kInt .u32) x.2.1),(.int .i64 x.2.2.1)])),(1,(.live 26 [(.bool x.2.2.2.1),(slK (kInt .u32) x.2.2.2.2.1),(.int .i64 x.2.2.2.2.2)])),(2,(.live 26 [(.bool false),(slK (kInt .u32) []),(.int .i64 0)]))])) ?_ ?_
   ·rintro ⟨y30,y31,y32,y33,y34,y35⟩
    dsimp only [dyad_sum_j1]
    refine .g 15 rfl<|.p0 rfl rfl fun x36 _=>.g 3 rfl<|.p0 rfl rfl fun x37 _=>.g 2 rfl<|.dn (by kernel_rfl)<|.g 9 rfl<|.p0 rfl rfl fun x38 _=>.g 4 rfl<|.fi rfl rfl
   ·intro h22
    refine .cd rfl (fun _ _=>?_) fun _ _=>?_
    ·refine .g 6 rfl<|.jw (h22 (a1.M.Neg,a1.M.Mag,a1.E,a0.M.Neg,a0.M.Mag,a0.E)) [(0,0),(1,1),(2,2)] rfl
    ·refine .g 1 rfl<|.jw (h22 (a0.M.Neg,a0.M.Mag,a0.E,a1.M.Neg,a1.M.Mag,a1.E)) [(0,0),(1,1),(2,2)] rfl
instance dyad_Cmp_i (a0:AD) (a1:AD):PC (dyad_Cmp a0 a1) Tryz.prog 30 [(.agg (kD.enc a0)),(.agg (kD.enc a1))] (fun r=>(.int .i64 r)):=pc func30 (by kernel_rfl) rfl fun E=>by
 unfold dyad_Cmp
 refine .g 9 rfl<|?_
 refine .cut (fun x:Bool=>(dyad_Cmp_j1 a0 a1 x,[eP 2 0,eP 3 1,eB 14 x],[(0,(.live 26 [(.bool a0.M.Neg),(slK (kInt .u32) a0.M.Mag),(.int .i64 a0.E)])),(1,(.live 26 [(.bool a1.M.Neg),(slK (kInt .u32) a1.M.Mag),(.int .i64 a1.E)]))])) ?_ ?_
 ·rintro y19
  dsimp only [dyad_Cmp_j1]
  refine .g 1 rfl<|?_
  refine .cd rfl (fun _ _=>?_) fun _ _=>?_
  ·refine .g 7 rfl<|.fi rfl rfl
  ·refine .g 4 rfl<|?_
   refine .cut (fun x:Bool=>(dyad_Cmp_j2 a0 a1 x,[eP 2 0,eP 3 1,eB 29 x],[(0,(.live 26 [(.bool a0.M.Neg),(slK (kInt .u32) a0.M.Mag),(.int .i64 a0.E)])),(1,(.live 26 [(.bool a1.M.Neg),(slK (kInt .u32) a1.M.Mag),(.int .i64 a1.E)]))])) ?_ ?_
   ·rintro y22
    dsimp only [dyad_Cmp_j2]
    refine .g 1 rfl<|?_
    refine .cd rfl (fun _ _=>?_) fun _ _=>?_
    ·refine .g 6 rfl<|.p0 rfl rfl fun x23 _=>.g 5 rfl<|.fi rfl rfl
    ·refine .g 6 rfl<|.p0 rfl rfl fun x24 _=>.g 1 rfl<|.p0 rfl rfl fun x25 _=>.g 2 rfl<|.dn (by kernel_rfl)<|.g 8 rfl<|?_
     refine .cd rfl (fun _ _=>?_) fun _ _=>?_
     ·refine .g 12 rfl<|?_
      refine .cd rfl (fun _ _=>?_) fun _ _=>?_
      ·refine .g 8 rfl<|.fi rfl rfl
      ·refine .g 9 rfl<|.fi rfl rfl
     ·refine .g 6 rfl<|.p0 rfl rfl fun x26 _=>.p0 rfl rfl fun x27 _=>.sv (.agg (kN.enc ((x27).M))) [] rfl (snd_field_agg _ _ _ _ _ _ _ _ _ rfl underlying26 rfl rfl rfl ag24 rfl rfl rfl (Nat.le_of_ble_eq_true rfl)) rfl<|.g 1 rfl<|.p0 rfl rfl fun x28 _=>.g 1 rfl<|.dn (by kernel_rfl)<|.g 2 rfl<|.fi rfl rfl
   ·intro h22
    refine .g 9 rfl<|?_
    refine .gd 22 rfl (fun _=>?_) fun _=>?_
    ·refine .g 8 rfl<|.jw (h22 true) [(0,0),(1,1)] rfl
    ·refine .g 1 rfl<|.p0 rfl rfl fun x29 _=>.g 2 rfl<|?_
     refine .gd 26 rfl (fun _=>?_) fun _=>?_
     ·refine .g 4 rfl<|.jw (h22 true) [(0,0),(1,1)] rfl
     ·refine .g 1 rfl<|.p0 rfl rfl fun x30 _=>.g 2 rfl<|.jw (h22 x30) [(0,0),(1,1)] rfl
 ·intro h27
  refine .g 2 rfl<|.p0 rfl rfl fun x31 _=>.g 2 rfl<|?_
  refine .gd 10 rfl (fun _=>?_) fun _=>?_
  ·refine .g 5 rfl<|.jw (h27 true) [(0,0),(1,1)] rfl
  ·refine .g 1 rfl<|.p0 rfl rfl fun x32 _=>.g 3 rfl<|.jw (h27 (!x32)) [(0,0),(1,1)] rfl
instance iv_Right_i (a0:AI):PC (iv_Right a0) Tryz.prog 29 [(.agg (kI.enc a0))] (fun r=>(.bool r)):=pc func29 (by kernel_rfl) rfl fun E=>by
 unfold iv_Right
 refine .g 7 rfl<|?_
 refine .cut (fun x:Bool=>(iv_Right_j1 x,[eB 2 x],[])) ?_ ?_
 ·rintro y11
  dsimp only [iv_Right_j1]
  refine .g 2 rfl<|.fi rfl rfl
 ·intro h6
  refine .g 3 rfl<|.p0 rfl rfl fun x12 _=>.g 1 rfl<|?_
  refine .gd 6 rfl (fun _=>?_) fun _=>?_
  ·refine .g 2 rfl<|.p0 rfl rfl fun x13 _=>.g 2 rfl<|?_
   refine .gd 11 rfl (fun _=>?_) fun _=>?_
   ·refine .g 4 rfl<|.p0 rfl rfl fun x14 _=>.g 4 rfl<|.jw (h6 (decide (x14≤0))) [] rfl
   ·refine .g 9 rfl<|.jw (h6 false) [] rfl
  ·refine .g 14 rfl<|.jw (h6 false) [] rfl
instance iv_trouble_note_i (a0:Int) (a1:Int) (a2:Int):CC (iv_trouble_note a0 a1 a2) Tryz.prog 77 [(.ptr 0 0),(.int .i64 a0)] [(.live 53 [(.int .i64 a1),(.int .i64 a2)])] (fun r=>(.bool r.1)) (fun r=>[(.live 53 [(.int .i64 r.2),(.int .i64 a2)])]):=cc func77 (by kernel_rfl) rfl fun E=>by
 unfold iv_trouble_note
 refine .g 15 rfl<|?_
 refine .cut (fun x:Int=>(iv_trouble_note_j1 x,[eP 0 0],[(0,(.live 53 [(.int .i64 x),(.int .i64 a2)]))])) ?_ ?_
 ·rintro y2
  dsimp only [iv_trouble_note_j1]
  refine .g 12 rfl<|.fi rfl rfl
 ·intro h3
  refine .cd rfl (fun _ _=>?_) fun _ _=>?_
  ·refine .g 7 rfl<|.jw (h3 a0) [(0,0)] rfl
  ·refine .g 1 rfl<|.jw (h3 a1) [(0,0)] rfl
instance cv_fine_i (a0:List AI) (a1:Int) (a2:Int):CC (cv_fine a0 a1 a2) Tryz.prog 75 [(.ptr 0 0),(slK kI a0)] [(.live 53 [(.int .i64 a1),(.int .i64 a2)])] (fun r=>(.bool r.1)) (fun r=>[(.live 53 [(.int .i64 r.2),(.int .i64 a2)])]):=cc func75 (by kernel_rfl) rfl fun E=>by
 unfold cv_fine
 refine .g 9 rfl<|.ln rfl rfl<|.g 3 rfl<|?_
 refine .cut (fun x:Int=>(cv_fine_j1 x,[eP 0 0],[(0,(.live 53 [(.int .i64 x),(.int .i64 a2)]))])) ?_ ?_
 ·rintro y122
  dsimp only [cv_fine_j1]
  refine .g 13 rfl<|.fi rfl rfl
 ·intro h61
  refine .g 1 rfl<|?_
  refine .lp (fun n (x:Int × Int)=>cv_fine_l2 a0 a2 n x.1 x.2) (fun x=>([eP 0 0,eK kI 7 a0,eI 8 (a0.length:Int),eI 9 x.1],[(0,(.live 53 [(.int .i64 x.2),(.int .i64 a2)]))])) (0,a1) [(0,0)] rfl ?_
  rintro n2 ⟨y149,y150⟩
  try dsimp only
  rw [cv_fine_l2]
  refine .g 6 rfl<|?_
  refine .cd rfl (fun _ _=>?_) fun _ _=>?_
  ·refine .g 6 rfl<|.ix rfl rfl<|.g 6 rfl<|?_
   refine .cut (fun x:Bool × Int=>(cv_fine_j3 (fun z0 z1=>cv_fine_l2 a0 a2 n2 z0 z1) y149 x.1 x.2,[eP 0 0,eK kI 7 a0,eI 8 (a0.length:Int),eI 9 y149,eB 22 x.1],[(0,(.live 53 [(.int .i64 x.2),(.int .i64 a2)]))])) ?_ ?_
   ·rintro ⟨y159,y160⟩
    dsimp only [cv_fine_j3]
    refine .g 1 rfl<|?_
    refine .cd rfl (fun _ _=>?_) fun _ _=>?_
    ·refine .g 5 rfl<|.jw (h61 y160) [(0,0)] rfl
    ·refine .g 7 rfl<|.ag ((IntKind.i64.wrap (y149+1)),y160) [(0,0)] rfl
   ·intro h119
    refine .g 2 rfl<|.p0 rfl rfl fun x161 _=>.g 2 rfl<|?_
    refine .gd 16 rfl (fun _=>?_) fun _=>?_
    ·refine .g 3 rfl<|.bind fun x162 h122=>.st rfl (cl (CC.h h122) [0] [] [true] rfl (.p rfl<|.i<|.nil) (.p rfl (.i<|.i<|.nil) .nil) fnil (.cons (.v (.i<|.i<|.nil)) .nil) (.bool _) (.turned .nil) rfl) rfl<|.g 3 rfl<|.jw (h119 ((!x162.1),x162.2)) [(0,0)] rfl
    ·refine .g 7 rfl<|.jw (h119 (false,y150)) [(0,0)] rfl
  ·refine .g 4 rfl<|.jw (h61 y150) [(0,0)] rfl
instance cv_Point_i (a0:AD) (a1:Int) (a2:Int):CC (cv_Point a0 a1 a2) Tryz.prog 33 [(.ptr 0 0),(.agg (kD.enc a0))] [(.live 53 [(.int .i64 a1),(.int .i64 a2)])] (fun r=>(.agg (kI.enc (⟨⟨(((r.1).Lo).M),((r.1).Lo).E⟩,⟨(((r.1).Hi).M),((r.1).Hi).E⟩⟩:AI)))) (fun r=>[(.live 53 [(.int .i64 r.2),(.int .i64 a2)])]):=cc func33 (by kernel_rfl) rfl fun E=>by
 unfold cv_Point
 refine .g 20 rfl<|.st rfl (bs kI [(⟨a0,a0⟩:AI)] rfl rfl) rfl<|.bind fun x2 h1=>.st rfl (cl (CC.h h1) [0] [] [true] rfl (.p rfl<|.l<|.nil) (.p rfl (.i<|.i<|.nil) .nil) fnil (.cons (.v (.i<|.i<|.nil)) .nil) (.bool _) (.turned .nil) rfl) rfl<|.g 3 rfl<|?_
 refine .cd rfl (fun _ _=>?_) fun _ _=>?_
 ·refine .g 8 rfl<|.fi rfl rfl
 ·refine .g 9 rfl<|.fi rfl rfl
instance cv_Int_i (a0:Int) (a1:Int) (a2:Int):CC (cv_Int a0 a1 a2) Tryz.prog 100 [(.ptr 0 0),(.int .i64 a0)] [(.live 53 [(.int .i64 a1),(.int .i64 a2)])] (fun r=>(.agg (kI.enc (⟨⟨(((r.1).Lo).M),((r.1).Lo).E⟩,⟨(((r.1).Hi).M),((r.1).Hi).E⟩⟩:AI)))) (fun r=>[(.live 53 [(.int .i64 r.2),(.int .i64 a2)])]):=cc func100 (by kernel_rfl) rfl fun E=>by
 unfold cv_Int
 refine .g 9 rfl<|.p0 rfl rfl fun x3 _=>.bind fun x4 h2=>.st rfl (cl (CC.h h2) [0] [] [true] rfl (.p rfl<|.a kD<|.nil) (.p rfl (.i<|.i<|.nil) .nil) fnil (.cons (.v (.i<|.i<|.nil)) .nil) (ren_agg (K:=kI) _) (.turned .nil) rfl) rfl<|.g 4 rfl<|.fi rfl rfl
instance iv_Has_i (a0:AI) (a1:AD):PC (iv_Has a0 a1) Tryz.prog 54 [(.agg (kI.enc a0)),(.agg (kD.enc a1))] (fun r=>(.bool r)):=pc func54 (by kernel_rfl) rfl fun E=>by
 unfold iv_Has
 refine .g 8 rfl<|?_
 refine .cut (fun x:Bool=>(iv_Has_j1 x,[eB 4 x],[])) ?_ ?_
 ·rintro y14
  dsimp only [iv_Has_j1]
  refine .g 2 rfl<|.fi rfl rfl
 ·intro h8
  refine .g 2 rfl<|.p0 rfl rfl fun x15 _=>.g 1 rfl<|?_
  refine .gd 7 rfl (fun _=>?_) fun _=>?_
  ·refine .g 1 rfl<|.p0 rfl rfl fun x16 _=>.g 2 rfl<|?_
   refine .gd 11 rfl (fun _=>?_) fun _=>?_
   ·refine .g 3 rfl<|.p0 rfl rfl fun x17 _=>.g 3 rfl<|?_
    refine .gd 18 rfl (fun _=>?_) fun _=>?_
    ·refine .g 3 rfl<|.p0 rfl rfl fun x18 _=>.g 4 rfl<|.jw (h8 (decide (x18≤0))) [] rfl
    ·refine .g 8 rfl<|.jw (h8 false) [] rfl
   ·refine .g 15 rfl<|.jw (h8 false) [] rfl
  ·refine .g 19 rfl<|.jw (h8 false) [] rfl
instance cv_Div_1_i (a0:Bool) (a1:Int) (a2:Int):CC (cv_Div_1 a0 a1 a2) Tryz.prog 189 [(.bool a0),(.ptr 0 0)] [(.live 45 [(.ptr 1 0)]),(.live 53 [(.int .i64 a1),(.int .i64 a2)])] (fun r=>(.fn 190 [] [(.ptr 0 0),(.ptr 2 0)])) (fun r=>[(.live 45 [(.ptr 1 0)]),(.live 53 [(.int .i64 a1),(.int .i64 a2)]),(.live 4 [(.bool r)])]):=cc func189 (by kernel_rfl) rfl fun E=>by
 unfold cv_Div_1
 refine .g 13 rfl<|.fi rfl rfl
instance dyad_fault_must_i (a0:Bool) (a1:Int) (a2:Int) (a3:Bool) (a4:List Int) (a5:Int):CC (dyad_fault_must a0 a1 a2 a3 a4 a5) Tryz.prog 183 [(.ptr 0 0),(.bool a0),(.int .i64 a1)] [(.live 174 [(.int .i64 a2),(.bool a3),(slK (kInt .u32) a4),(.int .i64 a5)])] (fun r=>(.bool r.1)) (fun r=>[(.live 174 [(.int .i64 r.2),(.bool a3),(slK (kInt .u32) a4),(.int .i64 a5)])]):=cc func183 (by kernel_rfl) rfl fun E=>by
 unfold dyad_fault_must
 refine .g 7 rfl<|?_
 refine .cut (fun x:Bool=>(dyad_fault_must_j1 a1 a2 x,[eP 0 0,eI 2 a1,eB 15 x],[(0,(.live 174 [(.int .i64 a2),(.bool a3),(slK (kInt .u32) a4),(.int .i64 a5)]))])) ?_ ?_
 ·rintro y3
  dsimp only [dyad_fault_must_j1]
  refine .g 1 rfl<|?_
  refine .cut (fun x:Int=>(dyad_fault_must_j2 x,[eP 0 0],[(0,(.live 174 [(.int .i64 x),(.bool a3),(slK (kInt .u32) a4),(.int .i64 a5)]))])) ?_ ?_
  ·rintro y4
   dsimp only [dyad_fault_must_j2]
   refine .g 12 rfl<|.fi rfl rfl
  ·intro h4
   refine .cd rfl (fun _ _=>?_) fun _ _=>?_
   ·refine .g 7 rfl<|.jw (h4 a1) [(0,0)] rfl
   ·refine .g 1 rfl<|.jw (h4 a2) [(0,0)] rfl
 ·intro h7
  refine .g 4 rfl<|?_
  refine .gd 9 rfl (fun _=>?_) fun _=>?_
  ·refine .g 7 rfl<|.jw (h7 (a2 == 0)) [(0,0)] rfl
  ·refine .g 7 rfl<|.jw (h7 false) [(0,0)] rfl
end Go.Proofs.YtoakhpdeadglpaaGreat.Gen
