/- Printed by gen.py: a call does what the plain function says. -/
import Derived.Test.YtpmpcohbpankaaaGreatKonstToldGenK
namespace Go.Proofs.YtpmpcohbpankaaaGreat.Gen
open Go Go.Abs Go.Proofs Go.Proofs.Tryz
theorem iv_New_c (a0:Int):∀ r,iv_New a0=some r→ACalls Tryz.prog 15 [(.int .i64 a0)] (lw []) (match r with | (Sum.inl y)=>(.tup [.nilptr,(.int .i64 y)]) | (Sum.inr y)=>(.tup [(.ptr 0 0),(.int .i64 y.1)])) (ld (match r with | (Sum.inl y)=>[.dead] | (Sum.inr y)=>[(.live 45 [(.int .i64 y.2.1),(.int .i64 y.2.2)])])):=by
 unfold iv_New
 refine go 0 func15 ntmps15 rfl ?_
 intro E hE
 refine .seq<|.region<|.p (sg rfl)<|.p (sg rfl)<|.nil<|.seq<|.seq<|.seq<|?_
 refine T.cut (X:=Bool) (fun x=>iv_New_j1 a0 x) (fun x=>(mkS [(0,some (.int .i64 a0)),(9,some (.bool x))] [])) ?_ ?_
 ·rintro y2
  dsimp only [iv_New_j1]
  refine .seq<|?_
  refine T.cond_p rfl iff_b (fun h2 h3=>?_) (fun h2 h3=>?_)
  ·refine .seq<|.region<|.p (sg rfl)<|.p (sg rfl)<|.nil<|.seq<|.ret<|.seq_ret<|fin_2 (.inr rfl) (.d (.nil _)) results15 (.t rfl) (.t rfl) (AVle.refl _)
  ·refine .skip<|.seq<|.seq<|.region<|.p (mv rfl)<|.p (bd ze45 pl45 rfl)<|.w (bx 0 rfl)<|.p (sg rfl)<|.p (sg rfl)<|.nil<|.seq<|.ret<|fin_2 (.inr rfl) (.k rfl (.nil _)) results15 (.t rfl) (.t rfl) (AVle.refl _)
 ·intro h4
  refine .region<|.p (mv rfl)<|.p (ar rfl)<|.p (mv rfl)<|?_
  refine TR.gd 6 _ rfl iff_dec (fun h5=>?_) (fun h5=>?_)
  ·refine .k rfl<|.k rfl<|.p (pt rfl)<|.nil<|.weak (h4 true) (jn (m:=0) [] hE (.i rfl<|.b rfl<|.nil) .nil rfl)
  ·refine .p (mv rfl)<|.p (ar rfl)<|.p (pf rfl)<|.nil<|.weak (h4 (decide (a0>400))) (jn (m:=0) [] hE (.i rfl<|.b rfl<|.nil) .nil rfl)
theorem iv_New_k_0 {a0:Int} {r:Int} (h:iv_New a0=some (Sum.inl r)):Cal Tryz.prog 15 [(.int .i64 a0)] [] (.tup [.nilptr,(.int .i64 r)]) [.dead]:=⟨⟨_,func15,nm15,rfl⟩,iv_New_c a0 _ h⟩
theorem iv_New_k_1 {a0:Int} {r:Int × Int × Int} (h:iv_New a0=some (Sum.inr r)):Cal Tryz.prog 15 [(.int .i64 a0)] [] (.tup [(.ptr 0 0),(.int .i64 r.1)]) [(.live 45 [(.int .i64 r.2.1),(.int .i64 r.2.2)])]:=⟨⟨_,func15,nm15,rfl⟩,iv_New_c a0 _ h⟩
theorem nat_trim_c (a0:List Int):∀ r,nat_trim a0=some r→ACalls Tryz.prog 142 [(slK (kInt .u32) a0)] (lw []) (slK (kInt .u32) r) (ld []):=by
 unfold nat_trim
 refine go 0 func142 ntmps142 rfl ?_
 intro E hE
 refine .seq<|.region<|?_
 refine TR.st 2 (slK (kInt .u32) []) [] (Snd.le (snd_assign _ _ rfl rfl rfl rfl) AVle.nil) rfl rfl rfl ?_
 refine .nil<|.seq<|.seq<|?_
 refine T.cut (X:=(List Int)) (fun x=>nat_trim_j1 x) (fun x=>(mkS [(0,some (slK (kInt .u32) x))] [])) ?_ ?_
 ·rintro y17
  dsimp only [nat_trim_j1]
  refine .seq<|.seq<|.region<|.p (mv rfl)<|.p (sg rfl)<|.nil<|.seq<|.ret<|fin_1 (.inr rfl) (.nil _) results142 (.t rfl) (AVle.refl _)
 ·intro h25
  refine .block<|.loopW (X:=(List Int)) (fun n x=>nat_trim_l2 n x) (fun x=>(mkS [(0,some (slK (kInt .u32) x))] [])) a0 (jn (m:=0) [] hE (.l rfl<|.nil) .nil rfl) (fun _=>rfl) rfl<|?_
  rintro n2 y21
  try dsimp only
  rw [nat_trim_l2]
  refine .seq<|.seq<|?_
  refine T.cut (X:=Bool) (fun x=>nat_trim_j3 y21 (fun z0=>nat_trim_l2 n2 z0) x) (fun x=>(mkS [(0,some (slK (kInt .u32) y21)),(14,some (.bool x))] [])) ?_ ?_
  ·rintro y22
   dsimp only [nat_trim_j3]
   refine .seq<|?_
   refine T.cond_p rfl iff_b (fun h44 h45=>?_) (fun h44 h45=>?_)
   ·refine .skip<|.seq<|.block<|.region<|.p (mv rfl)<|.p (mv rfl)<|.p (ln underlying22 rfl)<|.p (ar rfl)<|.guard fun h47=>?_
    refine TR.st 19 (slK (kInt .u32) (y21.take ((IntKind.i64.wrap ((y21.length:Int)-1)).toNat))) [] (snd_sliceK (kInt .u32) _ _ _ _ _ _ 0 (IntKind.i64.wrap ((y21.length:Int)-1)) rfl underlying22 si77 rfl rfl rfl rfl rfl h47) rfl rfl rfl ?_
    refine .p (sg rfl)<|.nil<|.block<|.again (y21.take ((IntKind.i64.wrap ((y21.length:Int)-1)).toNat)) (jn (m:=0) [] hE (.l rfl<|.nil) .nil rfl) rfl
   ·refine .exit<|.seq_exit<|.loop_exit<|.block_exit<|.weak (h25 y21) (jn (m:=0) [] hE (.l rfl<|.nil) .nil rfl)
  ·intro h48
   refine .region<|.p (mv rfl)<|.p (ln underlying22 rfl)<|.p (ar rfl)<|.p (mv rfl)<|?_
   refine TR.gd 6 _ rfl iff_dec (fun h49=>?_) (fun h49=>?_)
   ·refine .p (mv rfl)<|.p (mv rfl)<|.p (ln underlying22 rfl)<|.p (ar rfl)<|.guard fun h50=>?_
    refine TR.st 11 (.iptr [(.int .u32 (y21.getD ((IntKind.i64.wrap ((y21.length:Int)-1)).toNat) (kInt .u32).z))]) [] (snd_indexK (kInt .u32) _ _ _ _ _ _ (IntKind.i64.wrap ((y21.length:Int)-1)) rfl underlying22 si77 rfl rfl rfl rfl h50) rfl rfl rfl ?_
    refine .p (lsi sc77 rfl)<|.p (ar rfl)<|.p (pt rfl)<|.nil<|.weak (h48 ((y21.getD ((IntKind.i64.wrap ((y21.length:Int)-1)).toNat) (kInt .u32).z) == 0)) (jn (m:=0) [] hE (.l rfl<|.b rfl<|.nil) .nil rfl)
   ·refine .k rfl<|.k rfl<|.k rfl<|.k rfl<|.k rfl<|.k rfl<|.k rfl<|.p (pf rfl)<|.nil<|.weak (h48 false) (jn (m:=0) [] hE (.l rfl<|.b rfl<|.nil) .nil rfl)
theorem nat_trim_p {a0:List Int} {r:(List Int)} (h:nat_trim a0=some r):Pur Tryz.prog 142 [(slK (kInt .u32) a0)] (slK (kInt .u32) r):=⟨⟨_,func142,nm142,rfl⟩,nat_trim_c a0 _ h,fun _=>(.l<|.nil),fun _=>(ren_sl _)⟩
theorem nat_From_c (a0:Int):∀ r,nat_From a0=some r→ACalls Tryz.prog 122 [(.int .u64 a0)] (lw []) (slK (kInt .u32) r) (ld []):=by
 unfold nat_From
 refine go 0 func122 ntmps122 rfl ?_
 intro E hE
 refine .seq<|.region<|?_
 refine TR.st 2 (slK (kInt .u32) []) [] (Snd.le (snd_assign _ _ rfl rfl rfl rfl) AVle.nil) rfl rfl rfl ?_
 refine .nil<|.seq<|.seq<|.region<|.p (mv rfl)<|.p (cv underlying117 underlying77 rfl)<|.p (mv rfl)<|?_
 refine TR.st 6 (.int .u64 (shrI .u64 a0 32)) [] (snd_shr _ _ _ _ _ _ _ _ rfl rfl rfl rfl rfl (by decide)) rfl rfl rfl ?_
 refine .p (cv underlying117 underlying77 rfl)<|?_
 refine TR.st 8 (slK (kInt .u32) [(IntKind.u32.wrap a0),(IntKind.u32.wrap (shrI .u64 a0 32))]) [] (snd_buildSlice _ _ _ 1 _ _ [(0,(.int .u32 (IntKind.u32.wrap a0))),(1,(.int .u32 (IntKind.u32.wrap (shrI .u64 a0 32))))] (List.map (kInt .u32).enc [(IntKind.u32.wrap a0),(IntKind.u32.wrap (shrI .u64 a0 32))]) rfl underlying22 ze77 si77 rfl rfl rfl (by decide) (by decide) (by decide) rfl rfl (Kd.even _) rfl) rfl rfl rfl ?_
 refine .bind fun x2 h1=>.p (c0 (nat_trim_p h1) rfl)<|.p (sg rfl)<|.nil<|.seq<|.ret<|fin_1 (.inr rfl) (.nil _) results122 (.t rfl) (AVle.refl _)
theorem nat_From_p {a0:Int} {r:(List Int)} (h:nat_From a0=some r):Pur Tryz.prog 122 [(.int .u64 a0)] (slK (kInt .u32) r):=⟨⟨_,func122,nm122,rfl⟩,nat_From_c a0 _ h,fun _=>(.i<|.nil),fun _=>(ren_sl _)⟩
theorem slCl_c (l:List Int):∀ r,slCl l=some r→ACalls Tryz.prog 186 [slK (kInt .u32) l] (lw []) (slK (kInt .u32) r) (ld []):=by
 unfold slCl
 refine acalls_go (R:=List Int) (res:=fun r=>slK (kInt .u32) r) (V1:=fun r=>[]) [(0,some (slK (kInt .u32) l))] [] 0 func186 rfl ntmps186 rfl rfl rfl rfl ?_
 intro E hE
 refine T.seq ?_
 refine T.region ?_
 refine TR.guard (fun hp=>?_)
 refine TR.st 2 (slK (kInt .u32) []) [] (Snd.le (snd_assign _ _ rfl rfl rfl rfl) AVle.nil) rfl rfl rfl ?_
 refine TR.nil ?_
 refine TQ.seq ?_
 refine T.seq ?_
 refine T.seq ?_
 refine T.region ?_
 refine TR.st 3 _ [] (snd_move _ _ rfl rfl rfl rfl) rfl rfl rfl ?_
 cases l with
 | nil=>
  refine TR.sl_nil 4 _ _ _ _ _ rfl underlying22 rfl rfl rfl rfl rfl (fun b=>?_)
  refine TR.nil ?_
  refine TQ.seq ?_
  refine T.cond_any rfl ?_ ?_
  ·skip
   refine T.seq ?_
   refine T.region ?_
   refine TR.st 2 (slK (kInt .u32) []) [] (Snd.le (snd_assign _ _ rfl rfl rfl rfl) AVle.nil) rfl rfl rfl ?_
   refine TR.nil ?_
   refine TQ.seq ?_
   refine T.ret ?_
   refine TQ.seq_ret ?_
   exact fin_1 (.inr rfl) (.nil _) results186 (.tmp 2 _ rfl) (AVle.refl _)
  ·skip
   refine T.skip ?_
   refine TQ.seq ?_
   refine T.seq ?_
   refine T.region ?_
   refine TR.st 5 (.row 0 (kInt .u32).sz 0 ([]:List Int).length) [(0,rwK (kInt .u32) 77 [])] (snd_buildSlice0 (kInt .u32) _ _ 0 rfl underlying22 si77 rfl rfl rfl) rfl rfl rfl ?_
   refine TR.st 6 _ [] (snd_move _ _ rfl rfl rfl rfl) rfl rfl rfl ?_
   refine TR.st 7 _ [] (snd_append_none (kInt .u32) _ _ _ _ 0 0 rfl underlying22 si77 rfl rfl rfl rfl) rfl rfl rfl ?_
   refine TR.st 2 _ [] (snd_assign _ _ rfl rfl rfl rfl) rfl rfl rfl ?_
   refine TR.nil ?_
   refine TQ.seq ?_
   refine T.ret ?_
   refine TQ.weak ?_ (fun a w h=>Conc.freezeK (kInt .u32) h 2 0 0 (([]:List Int)).length 77 ([]:List Int) rfl rfl (by omega))
   refine TQ.weak ?_ (fun a w h=>take_all h)
   exact fin_1 (.inr rfl) (.nil _) results186 (.tmp 2 _ rfl) (AVle.refl _)
 | cons c l=>
  refine TR.st 4 (.bool false) [] (snd_sl_nil _ _ _ _ _ _ rfl underlying22 rfl rfl rfl (Nat.succ_pos _) rfl) rfl rfl rfl ?_
  refine TR.nil ?_
  refine TQ.seq ?_
  refine T.cond_f rfl ?_
  ·skip
   refine T.skip ?_
   refine TQ.seq ?_
   refine T.seq ?_
   refine T.region ?_
   refine TR.st 5 (.row 0 (kInt .u32).sz 0 ([]:List Int).length) [(0,rwK (kInt .u32) 77 [])] (snd_buildSlice0 (kInt .u32) _ _ 0 rfl underlying22 si77 rfl rfl rfl) rfl rfl rfl ?_
   refine TR.st 6 _ [] (snd_move _ _ rfl rfl rfl rfl) rfl rfl rfl ?_
   refine TR.st 7 (.row 1 (kInt .u32).sz 0 ([]++(c :: l)).length) [(1,rwK (kInt .u32) 77 ([]++(c :: l))),(0,.dead)] (snd_appendK (kInt .u32) _ _ _ _ _ 0 1 [] (c :: l) rfl underlying22 ze77 sb77 rfl rfl rfl rfl rfl rfl (by simp only [List.length_cons,List.length_nil] at hp ⊢; omega)) rfl rfl rfl ?_
   refine TR.st 2 _ [] (snd_assign _ _ rfl rfl rfl rfl) rfl rfl rfl ?_
   refine TR.nil ?_
   refine TQ.seq ?_
   refine T.ret ?_
   refine TQ.weak ?_ (fun a w h=>Conc.freezeK (kInt .u32) h 2 1 0 ((c :: l)).length 77 (c :: l) rfl rfl (by omega))
   refine TQ.weak ?_ (fun a w h=>take_all h)
   exact fin_1 (.inr rfl) (.nil _) results186 (.tmp 2 _ rfl) (AVle.refl _)
theorem nat_Trim_c (a0:List Int):∀ r,nat_Trim a0=some r→ACalls Tryz.prog 139 [(slK (kInt .u32) a0)] (lw []) (slK (kInt .u32) r) (ld []):=by
 unfold nat_Trim
 refine go 0 func139 ntmps139 rfl ?_
 intro E hE
 refine .seq<|.region<|?_
 refine TR.st 2 (slK (kInt .u32) []) [] (Snd.le (snd_assign _ _ rfl rfl rfl rfl) AVle.nil) rfl rfl rfl ?_
 refine .nil<|.seq<|.seq<|.region<|.p (mv rfl)<|.bind fun x3 h1=>.p (c0 (nat_trim_p h1) rfl)<|.bind fun x4 h2=>?_
 refine TR.st 5 (slK (kInt .u32) x4) [] (snd_callL [(slK (kInt .u32) x3)] [(slK (kInt .u32) x3)] Tryz.f186 [] [] (slK (kInt .u32) x4) (slK (kInt .u32) x4) [] [] [] [] rfl rfl rfl rfl rfl func186 nm186 rfl (slCl_c x3 x4 h2) (.l<|.nil) .nil rfl fnil rfl .nil (ren_sl _) .nil) rfl rfl rfl ?_
 refine .p (sg rfl)<|.nil<|.seq<|.ret<|fin_1 (.inr rfl) (.nil _) results139 (.t rfl) (AVle.refl _)
theorem nat_Trim_p {a0:List Int} {r:(List Int)} (h:nat_Trim a0=some r):Pur Tryz.prog 139 [(slK (kInt .u32) a0)] (slK (kInt .u32) r):=⟨⟨_,func139,nm139,rfl⟩,nat_Trim_c a0 _ h,fun _=>(.l<|.nil),fun _=>(ren_sl _)⟩
theorem zint_of_c (a0:ApiInt):∀ r,zint_of a0=some r→ACalls Tryz.prog 123 [(.agg (kN.enc a0))] (lw []) (.agg (kZintSigned.enc (⟨((r).size),(r).neg⟩:ZintSigned))) (ld []):=by
 unfold zint_of
 refine go 0 func123 ntmps123 rfl ?_
 intro E hE
 refine .seq<|.region<|.w (bx 0 rfl)<|.w (al 1 ze122 rfl)<|.nil<|.seq<|.seq<|.region<|.p (fa 1 fl24_1 rfl)<|.p (ls sc22 rfl)<|.bind fun x3 h1=>.p (c0 (nat_Trim_p h1) rfl)<|.p (sg rfl)<|.nil<|?_
 refine .seq<|.seq<|?_
 refine T.cut (X:=Bool) (fun x=>zint_of_j1 x3 x) (fun x=>(mkS [(2,some (.ptr 1 0))] [(1,(.live 122 [(slK (kInt .u32) x3),(.bool x)]))])) ?_ ?_
 ·rintro y4
  dsimp only [zint_of_j1]
  refine .seq<|.ret<|fin_1 (.inr rfl) (.nil _) results123 (.a ag122 rfl) (AVle.refl _)
 ·intro h3
  refine .region<|.p (mv rfl)<|.p (bd ze120 pl120 rfl)<|.p (fa 0 fl24_0 rfl)<|.p (ls sc4 rfl)<|.p (mv rfl)<|?_
  refine TR.gd 11 _ rfl iff_b (fun h4=>?_) (fun h4=>?_)
  ·refine .p (mv rfl)<|.p (ln underlying22 rfl)<|.p (ar rfl)<|.p (pt rfl)<|.p (bd ze122 pl122 rfl)<|.n (sa ag122 rfl)<|.nil<|.weak (h3 (decide ((x3.length:Int)>0))) (jn (m:=0) [(1,1)] hE (.p rfl rfl<|.nil) (.v rfl (.l<|.b<|.nil)<|.nil) rfl)
  ·refine .k rfl<|.k rfl<|.k rfl<|.p (pf rfl)<|.p (bd ze122 pl122 rfl)<|.n (sa ag122 rfl)<|.nil<|.weak (h3 false) (jn (m:=0) [(1,1)] hE (.p rfl rfl<|.nil) (.v rfl (.l<|.b<|.nil)<|.nil) rfl)
theorem zint_of_p {a0:ApiInt} {r:ZintSigned} (h:zint_of a0=some r):Pur Tryz.prog 123 [(.agg (kN.enc a0))] (.agg (kZintSigned.enc (⟨((r).size),(r).neg⟩:ZintSigned))):=⟨⟨_,func123,nm123,rfl⟩,zint_of_c a0 _ h,fun _=>(.a kN<|.nil),fun _=>(ren_agg (K:=kZintSigned) _)⟩
theorem zint_size_zero_c (a0:ZintSize):∀ r,zint_size_zero a0=some r→ACalls Tryz.prog 201 [(.agg (kZintSize.enc a0))] (lw []) (.bool r) (ld []):=by
 unfold zint_size_zero
 refine go 0 func201 ntmps201 rfl ?_
 intro E hE
 refine .seq<|.region<|.w (bx 0 rfl)<|.p (sg rfl)<|.nil<|.seq<|.seq<|.region<|.p (fa 0 fl120_0 rfl)<|.p (ls sc22 rfl)<|.p (ln underlying22 rfl)<|.p (ar rfl)<|.p (sg rfl)<|.nil<|?_
 refine .seq<|.ret<|fin_1 (.inr rfl) (.nil _) results201 (.t rfl) (AVle.refl _)
theorem zint_size_zero_p {a0:ZintSize} {r:Bool} (h:zint_size_zero a0=some r):Pur Tryz.prog 201 [(.agg (kZintSize.enc a0))] (.bool r):=⟨⟨_,func201,nm201,rfl⟩,zint_size_zero_c a0 _ h,fun _=>(.a kZintSize<|.nil),fun _=>(.bool _)⟩
theorem zint_signed_out_c (a0:ZintSigned):∀ r,zint_signed_out a0=some r→ACalls Tryz.prog 176 [(.agg (kZintSigned.enc a0))] (lw []) (.agg (kN.enc (r))) (ld []):=by
 unfold zint_signed_out
 refine go 0 func176 ntmps176 rfl ?_
 intro E hE
 refine .seq<|.region<|.w (bx 0 rfl)<|.w (al 1 ze24 rfl)<|.nil<|.seq<|.seq<|?_
 refine T.cut (X:=Bool) (fun x=>zint_signed_out_j1 a0 x) (fun x=>(mkS [(2,some (.ptr 1 0))] [(1,(.live 24 [(.bool x),(slK (kInt .u32) a0.size.mag)]))])) ?_ ?_
 ·rintro y5
  dsimp only [zint_signed_out_j1]
  refine .seq<|.ret<|fin_1 (.inr rfl) (.nil _) results176 (.a ag24 rfl) (AVle.refl _)
 ·intro h3
  refine .draw mixed<|.p (fa 1 fl122_1 rfl)<|.p (ls sc4 rfl)<|.p (mv rfl)<|?_
  refine TD.gd 5 _ rfl iff_b (fun h4=>?_) (fun h4=>?_)
  ·refine .p (fa 0 fl122_0 rfl)<|.p (la ag120 rfl)<|.bind fun x6 h5=>.p (c0 (zint_size_zero_p h5) rfl)<|.p (un rfl)<|.p (pt rfl)<|.p (fa 0 fl122_0 rfl)<|.p (fa 0 fl120_0 rfl)<|.p (ls sc22 rfl)<|.p (bd ze24 pl24 rfl)<|.n (sa ag24 rfl)<|.nil (by kernel_rfl)<|.weak (h3 (!x6)) (jn (m:=0) [(1,1)] hE (.p rfl rfl<|.nil) (.v rfl (.b<|.l<|.nil)<|.nil) rfl)
  ·refine .k rfl<|.k rfl<|.k rfl<|.k rfl<|.p (pf rfl)<|.p (fa 0 fl122_0 rfl)<|.p (fa 0 fl120_0 rfl)<|.p (ls sc22 rfl)<|.p (bd ze24 pl24 rfl)<|.n (sa ag24 rfl)<|.nil (by kernel_rfl)<|.weak (h3 false) (jn (m:=0) [(1,1)] hE (.p rfl rfl<|.nil) (.v rfl (.b<|.l<|.nil)<|.nil) rfl)
theorem zint_signed_out_p {a0:ZintSigned} {r:ApiInt} (h:zint_signed_out a0=some r):Pur Tryz.prog 176 [(.agg (kZintSigned.enc a0))] (.agg (kN.enc (r))):=⟨⟨_,func176,nm176,rfl⟩,zint_signed_out_c a0 _ h,fun _=>(.a kZintSigned<|.nil),fun _=>(ren_agg (K:=kN) _)⟩
theorem zint_Make_c (a0:Bool) (a1:List Int):∀ r,zint_Make a0 a1=some r→ACalls Tryz.prog 121 [(.bool a0),(slK (kInt .u32) a1)] (lw []) (.agg (kN.enc (r))) (ld []):=by
 unfold zint_Make
 refine go 0 func121 ntmps121 rfl ?_
 intro E hE
 refine .seq<|.region<|.w (al 0 ze24 rfl)<|.nil<|.seq<|.seq<|.region<|.p (mv rfl)<|.p (mv rfl)<|.p (bd ze24 pl24 rfl)<|.bind fun x3 h1=>.p (c0 (zint_of_p h1) rfl)<|.bind fun x4 h2=>.p (c0 (zint_signed_out_p h2) rfl)<|?_
 refine .n (sa ag24 rfl)<|.nil<|.seq<|.ret<|fin_1 (.inr rfl) (.nil _) results121 (.a ag24 rfl) (AVle.refl _)
theorem zint_Make_p {a0:Bool} {a1:List Int} {r:ApiInt} (h:zint_Make a0 a1=some r):Pur Tryz.prog 121 [(.bool a0),(slK (kInt .u32) a1)] (.agg (kN.enc (r))):=⟨⟨_,func121,nm121,rfl⟩,zint_Make_c a0 a1 _ h,fun _=>(.b<|.l<|.nil),fun _=>(ren_agg (K:=kN) _)⟩
theorem zint_From_c (a0:Int):∀ r,zint_From a0=some r→ACalls Tryz.prog 60 [(.int .i64 a0)] (lw []) (.agg (kN.enc (r))) (ld []):=by
 unfold zint_From
 refine go 0 func60 ntmps60 rfl ?_
 intro E hE
 refine .seq<|.region<|.w (al 0 ze24 rfl)<|.nil<|.seq<|.seq<|.region<|.p (mv rfl)<|.p (cv underlying3 underlying117 rfl)<|.p (sg rfl)<|.nil<|.seq<|.seq<|.seq<|?_
 refine .region<|.p (mv rfl)<|.p (ar rfl)<|.nil<|.seq<|?_
 refine T.cut (X:=Int) (fun x=>zint_From_j1 a0 x) (fun x=>(mkS [(0,some (.int .i64 a0)),(2,some (.ptr 0 0)),(3,some (.int .u64 x))] [(0,(.live 24 [(.bool false),(slK (kInt .u32) [])]))])) ?_ ?_
 ·rintro y4
  dsimp only [zint_From_j1]
  refine .seq<|.seq<|.region<|.p (mv rfl)<|.p (ar rfl)<|.p (mv rfl)<|.bind fun x5 h3=>.p (c0 (nat_From_p h3) rfl)<|.bind fun x6 h4=>.p (c0 (zint_Make_p h4) rfl)<|.n (sa ag24 rfl)<|.nil<|.seq<|.ret<|fin_1 (.inr rfl) (.nil _) results60 (.a ag24 rfl) (AVle.refl _)
 ·intro h5
  refine T.cond_p rfl iff_dec (fun h6 h7=>?_) (fun h6 h7=>?_)
  ·refine .region<|.p (mv rfl)<|.p (un rfl)<|.p (sg rfl)<|.nil<|.weak (h5 (IntKind.u64.wrap (0-(IntKind.u64.wrap a0)))) (jn (m:=0) [(0,0)] hE (.i rfl<|.p rfl rfl<|.i rfl<|.nil) (.v rfl (.b<|.l<|.nil)<|.nil) rfl)
  ·refine .skip<|.weak (h5 (IntKind.u64.wrap a0)) (jn (m:=0) [(0,0)] hE (.i rfl<|.p rfl rfl<|.i rfl<|.nil) (.v rfl (.b<|.l<|.nil)<|.nil) rfl)
theorem zint_From_p {a0:Int} {r:ApiInt} (h:zint_From a0=some r):Pur Tryz.prog 60 [(.int .i64 a0)] (.agg (kN.enc (r))):=⟨⟨_,func60,nm60,rfl⟩,zint_From_c a0 _ h,fun _=>(.i<|.nil),fun _=>(ren_agg (K:=kN) _)⟩
theorem nat_Bit_c (a0:List Int) (a1:Int):∀ r,nat_Bit a0 a1=some r→ACalls Tryz.prog 140 [(slK (kInt .u32) a0),(.int .i64 a1)] (lw []) (.bool r) (ld []):=by
 unfold nat_Bit
 refine go 0 func140 ntmps140 rfl ?_
 intro E hE
 refine .seq<|.region<|.p (sg rfl)<|.nil<|.seq<|.seq<|?_
 refine T.cut (X:=Bool) (fun x=>nat_Bit_j1 x) (fun x=>(mkS [(4,some (.bool x))] [])) ?_ ?_
 ·rintro y2
  dsimp only [nat_Bit_j1]
  refine .seq<|.ret<|fin_1 (.inr rfl) (.nil _) results140 (.t rfl) (AVle.refl _)
 ·intro h5
  refine .draw mixed<|.p (mv rfl)<|.p (ar rfl)<|.p (mv rfl)<|?_
  refine TD.gd 7 _ rfl iff_dec (fun h6=>?_) (fun h6=>?_)
  ·refine .p (mv rfl)<|?_
   refine TD.st 9 (.int .i64 (IntKind.i64.wrap (a1.tdiv 32))) [] (snd_quo _ _ _ _ _ _ _ rfl rfl rfl rfl rfl (by decide)) rfl rfl rfl ?_
   refine .p (mv rfl)<|.p (ln underlying22 rfl)<|.p (ar rfl)<|.p (pt rfl)<|.p (mv rfl)<|?_
   refine TD.gd 14 _ rfl iff_dec (fun h7=>?_) (fun h7=>?_)
   ·refine .p (mv rfl)<|.p (mv rfl)<|?_
    refine TD.st 17 (.int .i64 (IntKind.i64.wrap (a1.tdiv 32))) [] (snd_quo _ _ _ _ _ _ _ rfl rfl rfl rfl rfl (by decide)) rfl rfl rfl ?_
    refine .guard fun h8=>?_
    refine TD.st 18 (.iptr [(.int .u32 (a0.getD ((IntKind.i64.wrap (a1.tdiv 32)).toNat) (kInt .u32).z))]) [] (snd_indexK (kInt .u32) _ _ _ _ _ _ (IntKind.i64.wrap (a1.tdiv 32)) rfl underlying22 si77 rfl rfl rfl rfl h8) rfl rfl rfl ?_
    refine .p (lsi sc77 rfl)<|.p (mv rfl)<|?_
    refine TD.st 21 (.int .i64 (a1.tmod 32)) [] (snd_rem _ _ _ _ _ _ _ rfl rfl rfl rfl rfl (by decide)) rfl rfl rfl ?_
    refine .guard fun h9=>?_
    refine TD.st 22 (.int .u32 (shlI .u32 1 (a1.tmod 32))) [] (snd_shl _ _ _ _ _ _ _ _ rfl rfl rfl rfl rfl h9) rfl rfl rfl ?_
    refine .p (ar rfl)<|.p (ar rfl)<|.p (pt rfl)<|.p (sg rfl)<|.nil (by kernel_rfl)<|.weak (h5 ((andI .u32 (a0.getD ((IntKind.i64.wrap (a1.tdiv 32)).toNat) (kInt .u32).z) (shlI .u32 1 (a1.tmod 32))) != 0)) (jn (m:=0) [] hE (.b rfl<|.nil) .nil rfl)
   ·refine .k rfl<|.k rfl<|.k rfl<|.k rfl<|.k rfl<|.k rfl<|.k rfl<|.k rfl<|.k rfl<|.k rfl<|.p (pf rfl)<|.p (sg rfl)<|.nil (by kernel_rfl)<|.weak (h5 false) (jn (m:=0) [] hE (.b rfl<|.nil) .nil rfl)
  ·refine .k rfl<|.k rfl<|.k rfl<|.k rfl<|.k rfl<|.p (pf rfl)<|.p (mv rfl)<|.k rfl<|.k rfl<|.k rfl<|.k rfl<|.k rfl<|.k rfl<|.k rfl<|?_
   refine .k rfl<|.k rfl<|.k rfl<|.p (pf rfl)<|.p (sg rfl)<|.nil (by kernel_rfl)<|.weak (h5 false) (jn (m:=0) [] hE (.b rfl<|.nil) .nil rfl)
theorem nat_Bit_p {a0:List Int} {a1:Int} {r:Bool} (h:nat_Bit a0 a1=some r):Pur Tryz.prog 140 [(slK (kInt .u32) a0),(.int .i64 a1)] (.bool r):=⟨⟨_,func140,nm140,rfl⟩,nat_Bit_c a0 a1 _ h,fun _=>(.l<|.i<|.nil),fun _=>(.bool _)⟩
theorem nat_Shr_c (a0:List Int) (a1:Int):∀ r,nat_Shr a0 a1=some r→ACalls Tryz.prog 141 [(slK (kInt .u32) a0),(.int .i64 a1)] (lw []) (slK (kInt .u32) r) (ld []):=by
 unfold nat_Shr
 refine go 0 func141 ntmps141 rfl ?_
 intro E hE
 refine .seq<|.region<|?_
 refine TR.st 4 (slK (kInt .u32) []) [] (Snd.le (snd_assign _ _ rfl rfl rfl rfl) AVle.nil) rfl rfl rfl ?_
 refine .nil<|.seq<|.seq<|.region<|.p (mv rfl)<|.bind fun x25 h1=>.p (c0 (nat_trim_p h1) rfl)<|.p (sg rfl)<|.nil<|.seq<|.seq<|.seq<|.region<|.p (mv rfl)<|?_
 refine .p (ar rfl)<|.nil<|.seq<|?_
 refine T.cond_p rfl iff_dec (fun h2 h3=>?_) (fun h2 h3=>?_)
 ·refine .seq<|.region<|.p (mv rfl)<|.bind fun x26 h4=>?_
  refine TR.st 13 (slK (kInt .u32) x26) [] (snd_callL [(slK (kInt .u32) x25)] [(slK (kInt .u32) x25)] Tryz.f186 [] [] (slK (kInt .u32) x26) (slK (kInt .u32) x26) [] [] [] [] rfl rfl rfl rfl rfl func186 nm186 rfl (slCl_c x25 x26 h4) (.l<|.nil) .nil rfl fnil rfl .nil (ren_sl _) .nil) rfl rfl rfl ?_
  refine .p (sg rfl)<|.nil<|.seq<|.ret<|.seq_ret<|fin_1 (.inr rfl) (.nil _) results141 (.t rfl) (AVle.refl _)
 ·refine .skip<|.seq<|.seq<|.seq<|.region<|.p (mv rfl)<|?_
  refine TR.st 15 (.int .i64 (IntKind.i64.wrap (a1.tdiv 32))) [] (snd_quo _ _ _ _ _ _ _ rfl rfl rfl rfl rfl (by decide)) rfl rfl rfl ?_
  refine .p (mv rfl)<|.p (ln underlying22 rfl)<|.p (ar rfl)<|.nil<|.seq<|?_
  refine T.cond_p rfl iff_dec (fun h5 h6=>?_) (fun h5 h6=>?_)
  ·refine .seq<|.region<|?_
   refine TR.st 4 (slK (kInt .u32) []) [] (Snd.le (snd_assign _ _ rfl rfl rfl rfl) AVle.nil) rfl rfl rfl ?_
   refine .nil<|.seq<|.ret<|.seq_ret<|fin_1 (.inr rfl) (.nil _) results141 (.t rfl) (AVle.refl _)
  ·refine .skip<|.seq<|.seq<|.region<|.p (mv rfl)<|.p (mv rfl)<|?_
   refine TR.st 21 (.int .i64 (IntKind.i64.wrap (a1.tdiv 32))) [] (snd_quo _ _ _ _ _ _ _ rfl rfl rfl rfl rfl (by decide)) rfl rfl rfl ?_
   refine .guard fun h7=>?_
   refine TR.st 22 (slK (kInt .u32) ((x25.take x25.length).drop ((IntKind.i64.wrap (a1.tdiv 32)).toNat))) [] (snd_sliceK (kInt .u32) _ _ _ _ _ _ (IntKind.i64.wrap (a1.tdiv 32)) (x25.length:Int) rfl underlying22 si77 rfl rfl rfl rfl rfl h7) rfl rfl rfl ?_
   refine .p (sg rfl)<|.nil<|.seq<|.seq<|.region<|.p (mv rfl)<|.p (ln underlying22 rfl)<|.guard fun h8=>?_
   refine TR.st 25 (.row 0 (kInt .u32).sz 0 (((List.replicate (((x25.take x25.length).drop ((IntKind.i64.wrap (a1.tdiv 32)).toNat)).length) (kInt .u32).z)).length)) [(0,(rwK (kInt .u32) 77 (List.replicate (((x25.take x25.length).drop ((IntKind.i64.wrap (a1.tdiv 32)).toNat)).length) (kInt .u32).z)))] (snd_makeK (kInt .u32) _ _ _ _ _ 0 _ _ _ rfl underlying22 ze77 sb77 (by decide) rfl rfl rfl rfl rfl h8) rfl rfl rfl ?_
   refine .p (sg rfl)<|.nil<|.seq<|.seq<|.seq<|.region<|.p (mv rfl)<|.p (ln underlying22 rfl)<|.p (mv rfl)<|.nil<|.seq<|?_
   refine T.cut (X:=(List Int)) (fun x=>nat_Shr_j1 x) (fun x=>(mkS [(5,some (.row 0 (kInt .u32).sz 0 ((x).length)))] [(0,(rwK (kInt .u32) 77 x))])) ?_ ?_
   ·rintro y37
    dsimp only [nat_Shr_j1]
    refine .seq<|.seq<|?_
    refine T.weak ?_ (fun a w h=>Conc.freezeK (kInt .u32) h 5 0 0 ((y37).length) 77 y37 rfl rfl (by omega))
    refine T.weak ?_ (fun a w h=>take_all h)
    refine .region<|.p (mv rfl)<|.bind fun x38 h69=>.p (c0 (nat_trim_p h69) rfl)<|.p (sg rfl)<|.nil<|.seq<|.ret<|fin_1 (.inr rfl) (.nil _) results141 (.t rfl) (AVle.refl _)
   ·intro h70
    refine .block<|.loopW (X:=Int × (List Int)) (fun n x=>nat_Shr_l2 x25 a1 n x.1 x.2) (fun x=>(mkS [(0,some (slK (kInt .u32) ((x25.take x25.length).drop ((IntKind.i64.wrap (a1.tdiv 32)).toNat)))),(1,some (.int .i64 a1)),(5,some (.row 0 (kInt .u32).sz 0 ((x.2).length))),(27,some (.int .i64 (((x25.take x25.length).drop ((IntKind.i64.wrap (a1.tdiv 32)).toNat)).length:Int))),(28,some (.int .i64 x.1))] [(0,(rwK (kInt .u32) 77 x.2))])) (0,(List.replicate (((x25.take x25.length).drop ((IntKind.i64.wrap (a1.tdiv 32)).toNat)).length) (kInt .u32).z)) (jn (m:=0) [(0,0)] hE (.l rfl<|.i rfl<|.g rfl (.row _ _ _ _ _ rfl)<|.i rfl<|.i rfl<|.nil) (.cons (.refl _) (renV_rw _ _)<|.nil) rfl) (fun _=>rfl) rfl<|?_
    rintro n2 ⟨y45,y46⟩
    try dsimp only
    rw [nat_Shr_l2]
    refine .seq<|.region<|.p (ar rfl)<|.nil<|.seq<|.seq<|?_
    refine T.cond_p rfl iff_dec (fun h111 h112=>?_) (fun h111 h112=>?_)
    ·refine .skip<|.seq<|.seq<|.block<|.seq<|.region<|.p (mv rfl)<|.p (sg rfl)<|.nil<|.seq<|.seq<|.region<|.p (mv rfl)<|.p (mv rfl)<|?_
     refine .guard fun h122=>?_
     refine TR.st 33 (.iptr [(.int .u32 (((x25.take x25.length).drop ((IntKind.i64.wrap (a1.tdiv 32)).toNat)).getD y45.toNat (kInt .u32).z))]) [] (snd_indexK (kInt .u32) _ _ _ _ _ _ y45 rfl underlying22 si77 rfl rfl rfl rfl h122) rfl rfl rfl ?_
     refine .p (lsi sc77 rfl)<|.p (cv underlying77 underlying117 rfl)<|.p (sg rfl)<|.nil<|.seq<|.seq<|.seq<|.region<|.p (mv rfl)<|.p (ar rfl)<|.p (mv rfl)<|.p (ln underlying22 rfl)<|.p (ar rfl)<|.nil<|?_
     refine .seq<|?_
     refine T.cut (X:=Int) (fun x=>nat_Shr_j3 a1 y45 y46 (fun z0 z1=>nat_Shr_l2 x25 a1 n2 z0 z1) x) (fun x=>(mkS [(0,some (slK (kInt .u32) ((x25.take x25.length).drop ((IntKind.i64.wrap (a1.tdiv 32)).toNat)))),(1,some (.int .i64 a1)),(5,some (.row 0 (kInt .u32).sz 0 ((y46).length))),(6,some (.int .i64 y45)),(7,some (.int .u64 x)),(27,some (.int .i64 (((x25.take x25.length).drop ((IntKind.i64.wrap (a1.tdiv 32)).toNat)).length:Int))),(28,some (.int .i64 y45))] [(0,(rwK (kInt .u32) 77 y46))])) ?_ ?_
     ·rintro y48
      dsimp only [nat_Shr_j3]
      refine .seq<|.region<|.p (mv rfl)<|.p (mv rfl)<|.p (mv rfl)<|.p (mv rfl)<|?_
      refine TR.st 54 (.int .i64 (a1.tmod 32)) [] (snd_rem _ _ _ _ _ _ _ rfl rfl rfl rfl rfl (by decide)) rfl rfl rfl ?_
      refine .guard fun h126=>?_
      refine TR.st 55 (.int .u64 (shrI .u64 y48 (a1.tmod 32))) [] (snd_shr _ _ _ _ _ _ _ _ rfl rfl rfl rfl rfl h126) rfl rfl rfl ?_
      refine .p (cv underlying117 underlying77 rfl)<|.guard fun h127=>?_
      obtain ⟨h1271,h1272⟩:=h127
      refine TR.st 57 (.rptr 0 (kInt .u32).sz y45.toNat 0) [] (idx_r (snd_index_r _ _ _ _ _ 0 0 ((y46).length) _ y45 rfl underlying22 si77 rfl rfl rfl rfl h1271 (by omega)) (Nat.zero_add _)) rfl rfl rfl ?_
      refine TR.sn [(0,(rwK (kInt .u32) 77 ((y46).set y45.toNat (IntKind.u32.wrap (shrI .u64 y48 (a1.tmod 32))))))] (snd_storeK_sca (kInt .u32) _ _ _ 0 y45.toNat _ _ (IntKind.u32.wrap (shrI .u64 y48 (a1.tmod 32))) _ rfl rfl rfl sc77 rfl rfl rfl rfl rfl rfl (by first | omega | (simp only [List.length_set]; omega))) rfl rfl ?_
      refine TR.weak ?_ (fun a w h=>Conc.relen h 5 ((((y46).set y45.toNat (IntKind.u32.wrap (shrI .u64 y48 (a1.tmod 32))))).length) rfl List.length_set.symm)
      refine .nil<|.block<|.seq<|.region<|.p (ar rfl)<|.p (mv rfl)<|.nil<|.again ((IntKind.i64.wrap (y45+1)),((y46).set y45.toNat (IntKind.u32.wrap (shrI .u64 y48 (a1.tmod 32))))) (jn (m:=0) [(0,0)] hE (.l rfl<|.i rfl<|.g rfl (.row _ _ _ _ _ rfl)<|.i rfl<|.i rfl<|.nil) (.cons (.refl _) (renV_rw _ _)<|.nil) rfl) rfl
     ·intro h128
      refine T.cond_p rfl iff_dec (fun h129 h130=>?_) (fun h129 h130=>?_)
      ·refine .region<|.p (mv rfl)<|.p (mv rfl)<|.p (mv rfl)<|.p (ar rfl)<|.guard fun h131=>?_
       refine TR.st 45 (.iptr [(.int .u32 (((x25.take x25.length).drop ((IntKind.i64.wrap (a1.tdiv 32)).toNat)).getD ((IntKind.i64.wrap (y45+1)).toNat) (kInt .u32).z))]) [] (snd_indexK (kInt .u32) _ _ _ _ _ _ (IntKind.i64.wrap (y45+1)) rfl underlying22 si77 rfl rfl rfl rfl h131) rfl rfl rfl ?_
       refine .p (lsi sc77 rfl)<|.p (cv underlying77 underlying117 rfl)<|?_
       refine TR.st 48 (.int .u64 (shlI .u64 (IntKind.u64.wrap (((x25.take x25.length).drop ((IntKind.i64.wrap (a1.tdiv 32)).toNat)).getD ((IntKind.i64.wrap (y45+1)).toNat) (kInt .u32).z)) 32)) [] (snd_shl _ _ _ _ _ _ _ _ rfl rfl rfl rfl rfl (by decide)) rfl rfl rfl ?_
       refine .p (ar rfl)<|.p (sg rfl)<|.nil<|.weak (h128 (orI .u64 (IntKind.u64.wrap (((x25.take x25.length).drop ((IntKind.i64.wrap (a1.tdiv 32)).toNat)).getD y45.toNat (kInt .u32).z)) (shlI .u64 (IntKind.u64.wrap (((x25.take x25.length).drop ((IntKind.i64.wrap (a1.tdiv 32)).toNat)).getD ((IntKind.i64.wrap (y45+1)).toNat) (kInt .u32).z)) 32))) (jn (m:=0) [(0,0)] hE (.l rfl<|.i rfl<|.g rfl (.row _ _ _ _ _ rfl)<|.i rfl<|.i rfl<|.i rfl<|.i rfl<|.nil) (.cons (.refl _) (renV_rw _ _)<|.nil) rfl)
      ·refine .skip<|.weak (h128 (IntKind.u64.wrap (((x25.take x25.length).drop ((IntKind.i64.wrap (a1.tdiv 32)).toNat)).getD y45.toNat (kInt .u32).z))) (jn (m:=0) [(0,0)] hE (.l rfl<|.i rfl<|.g rfl (.row _ _ _ _ _ rfl)<|.i rfl<|.i rfl<|.i rfl<|.i rfl<|.nil) (.cons (.refl _) (renV_rw _ _)<|.nil) rfl)
    ·refine .exit<|.seq_exit<|.loop_exit<|.block_exit<|.weak (h70 y46) (jn (m:=0) [(0,0)] hE (.g rfl (.row _ _ _ _ _ rfl)<|.nil) (.cons (.refl _) (renV_rw _ _)<|.nil) rfl)
theorem nat_Shr_p {a0:List Int} {a1:Int} {r:(List Int)} (h:nat_Shr a0 a1=some r):Pur Tryz.prog 141 [(slK (kInt .u32) a0),(.int .i64 a1)] (slK (kInt .u32) r):=⟨⟨_,func141,nm141,rfl⟩,nat_Shr_c a0 a1 _ h,fun _=>(.l<|.i<|.nil),fun _=>(ren_sl _)⟩
theorem dyad_norm_c (a0:Bool) (a1:List Int) (a2:Int):∀ r,dyad_norm a0 a1 a2=some r→ACalls Tryz.prog 80 [(.bool a0),(slK (kInt .u32) a1),(.int .i64 a2)] (lw []) (.agg (kD.enc (⟨((r).M),(r).E⟩:AD))) (ld []):=by
 unfold dyad_norm
 refine go 0 func80 ntmps80 rfl ?_
 intro E hE
 refine .seq<|.region<|.w (al 0 ze26 rfl)<|.nil<|.seq<|.seq<|.region<|.p (mv rfl)<|.bind fun x20 h1=>.p (c0 (nat_Trim_p h1) rfl)<|.p (sg rfl)<|.nil<|.seq<|.seq<|?_
 refine .seq<|.region<|.p (mv rfl)<|.p (ln underlying22 rfl)<|.p (ar rfl)<|.nil<|.seq<|?_
 refine T.cond_p rfl iff_eq (fun h2 h3=>?_) (fun h2 h3=>?_)
 ·refine .seq<|.region<|.p (bd ze26 pl26 rfl)<|.n (sa ag26 rfl)<|.nil<|.seq<|.ret<|.seq_ret<|fin_1 (.inr rfl) (.nil _) results80 (.a ag26 rfl) (AVle.refl _)
 ·refine .skip<|.seq<|.seq<|.region<|.p (sg rfl)<|.nil<|.seq<|.seq<|?_
  refine T.cut (X:=Int) (fun x=>dyad_norm_j1 x20 a0 a2 x) (fun x=>(mkS [(0,some (.bool a0)),(1,some (slK (kInt .u32) x20)),(2,some (.int .i64 a2)),(6,some (.ptr 0 0)),(7,some (.int .i64 x))] [(0,(.live 26 [(.bool false),(slK (kInt .u32) []),(.int .i64 0)]))])) ?_ ?_
  ·rintro y23
   dsimp only [dyad_norm_j1]
   refine .seq<|.seq<|?_
   refine T.cut (X:=Int) (fun x=>dyad_norm_j2 x20 a0 a2 x) (fun x=>(mkS [(0,some (.bool a0)),(1,some (slK (kInt .u32) x20)),(2,some (.int .i64 a2)),(6,some (.ptr 0 0)),(7,some (.int .i64 x))] [(0,(.live 26 [(.bool false),(slK (kInt .u32) []),(.int .i64 0)]))])) ?_ ?_
   ·rintro y29
    dsimp only [dyad_norm_j2]
    refine .seq<|.seq<|.region<|.p (mv rfl)<|.p (mv rfl)<|.p (mv rfl)<|.bind fun x30 h22=>.p (c0 (nat_Shr_p h22) rfl)<|.bind fun x31 h23=>.p (c0 (zint_Make_p h23) rfl)<|.p (mv rfl)<|.p (mv rfl)<|.p (ar rfl)<|.p (bd ze26 pl26 rfl)<|?_
    refine .n (sa ag26 rfl)<|.nil<|.seq<|.ret<|fin_1 (.inr rfl) (.nil _) results80 (.a ag26 rfl) (AVle.refl _)
   ·intro h24
    refine .block<|.loopW (X:=Int) (fun n x=>dyad_norm_l3 x20 a0 a2 n x) (fun x=>(mkS [(0,some (.bool a0)),(1,some (slK (kInt .u32) x20)),(2,some (.int .i64 a2)),(6,some (.ptr 0 0)),(7,some (.int .i64 x))] [(0,(.live 26 [(.bool false),(slK (kInt .u32) []),(.int .i64 0)]))])) y23 (jn (m:=0) [(0,0)] hE (.b rfl<|.l rfl<|.i rfl<|.p rfl rfl<|.i rfl<|.nil) (.v rfl (.b<|.l<|.i<|.nil)<|.nil) rfl) (fun _=>rfl) rfl<|?_
    rintro n3 y35
    try dsimp only
    rw [dyad_norm_l3]
    refine .seq<|.seq<|.region<|.p (mv rfl)<|.p (mv rfl)<|.bind fun x36 h31=>.p (c0 (nat_Bit_p h31) rfl)<|.p (un rfl)<|.nil<|.seq<|?_
    refine T.cond_p rfl iff_nb (fun h32 h33=>?_) (fun h32 h33=>?_)
    ·refine .skip<|.seq<|.block<|.region<|.p (mv rfl)<|.p (ar rfl)<|.p (sg rfl)<|.nil<|.block<|.again (IntKind.i64.wrap (y35+1)) (jn (m:=0) [(0,0)] hE (.b rfl<|.l rfl<|.i rfl<|.p rfl rfl<|.i rfl<|.nil) (.v rfl (.b<|.l<|.i<|.nil)<|.nil) rfl) rfl
    ·refine .exit<|.seq_exit<|.loop_exit<|.block_exit<|.weak (h24 y35) (jn (m:=0) [(0,0)] hE (.b rfl<|.l rfl<|.i rfl<|.p rfl rfl<|.i rfl<|.nil) (.v rfl (.b<|.l<|.i<|.nil)<|.nil) rfl)
  ·intro h34
   refine .block<|.loopW (X:=Int) (fun n x=>dyad_norm_l4 x20 a0 a2 n x) (fun x=>(mkS [(0,some (.bool a0)),(1,some (slK (kInt .u32) x20)),(2,some (.int .i64 a2)),(6,some (.ptr 0 0)),(7,some (.int .i64 x))] [(0,(.live 26 [(.bool false),(slK (kInt .u32) []),(.int .i64 0)]))])) 0 (jn (m:=0) [(0,0)] hE (.b rfl<|.l rfl<|.i rfl<|.p rfl rfl<|.i rfl<|.nil) (.v rfl (.b<|.l<|.i<|.nil)<|.nil) rfl) (fun _=>rfl) rfl<|?_
   rintro n4 y38
   try dsimp only
   rw [dyad_norm_l4]
   refine .seq<|.seq<|.region<|.p (mv rfl)<|.p (mv rfl)<|?_
   refine TR.st 16 (.int .i64 (IntKind.i64.wrap (y38.tdiv 32))) [] (snd_quo _ _ _ _ _ _ _ rfl rfl rfl rfl rfl (by decide)) rfl rfl rfl ?_
   refine .guard fun h41=>?_
   refine TR.st 17 (.iptr [(.int .u32 (x20.getD ((IntKind.i64.wrap (y38.tdiv 32)).toNat) (kInt .u32).z))]) [] (snd_indexK (kInt .u32) _ _ _ _ _ _ (IntKind.i64.wrap (y38.tdiv 32)) rfl underlying22 si77 rfl rfl rfl rfl h41) rfl rfl rfl ?_
   refine .p (lsi sc77 rfl)<|.p (ar rfl)<|.nil<|.seq<|?_
   refine T.cond_p rfl iff_eq (fun h42 h43=>?_) (fun h42 h43=>?_)
   ·refine .skip<|.seq<|.block<|.region<|.p (mv rfl)<|.p (ar rfl)<|.p (sg rfl)<|.nil<|.block<|.again (IntKind.i64.wrap (y38+32)) (jn (m:=0) [(0,0)] hE (.b rfl<|.l rfl<|.i rfl<|.p rfl rfl<|.i rfl<|.nil) (.v rfl (.b<|.l<|.i<|.nil)<|.nil) rfl) rfl
   ·refine .exit<|.seq_exit<|.loop_exit<|.block_exit<|.weak (h34 y38) (jn (m:=0) [(0,0)] hE (.b rfl<|.l rfl<|.i rfl<|.p rfl rfl<|.i rfl<|.nil) (.v rfl (.b<|.l<|.i<|.nil)<|.nil) rfl)
theorem dyad_norm_p {a0:Bool} {a1:List Int} {a2:Int} {r:AD} (h:dyad_norm a0 a1 a2=some r):Pur Tryz.prog 80 [(.bool a0),(slK (kInt .u32) a1),(.int .i64 a2)] (.agg (kD.enc (⟨((r).M),(r).E⟩:AD))):=⟨⟨_,func80,nm80,rfl⟩,dyad_norm_c a0 a1 a2 _ h,fun _=>(.b<|.l<|.i<|.nil),fun _=>(ren_agg (K:=kD) _)⟩
theorem dyad_From_c (a0:Int):∀ r,dyad_From a0=some r→ACalls Tryz.prog 101 [(.int .i64 a0)] (lw []) (.agg (kD.enc (⟨((r).M),(r).E⟩:AD))) (ld []):=by
 unfold dyad_From
 refine go 0 func101 ntmps101 rfl ?_
 intro E hE
 refine .seq<|.region<|.w (al 0 ze26 rfl)<|.nil<|.seq<|.seq<|.region<|.p (mv rfl)<|.bind fun x3 h1=>.p (c0 (zint_From_p h1) rfl)<|.w (al 1 ze24 rfl)<|.n (sa ag24 rfl)<|.nil<|.seq<|?_
 refine .seq<|.region<|.p (fa 0 fl24_0 rfl)<|.p (ls sc4 rfl)<|.p (fa 1 fl24_1 rfl)<|.p (ls sc22 rfl)<|.bind fun x4 h2=>.p (c0 (dyad_norm_p h2) rfl)<|.n (sa ag26 rfl)<|.nil<|.seq<|.ret<|fin_1 (.inr rfl) (.nil _) results101 (.a ag26 rfl) (AVle.refl _)
theorem dyad_From_p {a0:Int} {r:AD} (h:dyad_From a0=some r):Pur Tryz.prog 101 [(.int .i64 a0)] (.agg (kD.enc (⟨((r).M),(r).E⟩:AD))):=⟨⟨_,func101,nm101,rfl⟩,dyad_From_c a0 _ h,fun _=>(.i<|.nil),fun _=>(ren_agg (K:=kD) _)⟩
theorem zint_Right_c (a0:ApiInt):∀ r,zint_Right a0=some r→ACalls Tryz.prog 143 [(.agg (kN.enc a0))] (lw []) (.bool r) (ld []):=by
 unfold zint_Right
 refine go 0 func143 ntmps143 rfl ?_
 intro E hE
 refine .seq<|.region<|.w (bx 0 rfl)<|.p (sg rfl)<|.nil<|.seq<|.seq<|.seq<|.region<|.p (fa 1 fl24_1 rfl)<|.p (ls sc22 rfl)<|.p (ln underlying22 rfl)<|.p (ar rfl)<|.nil<|?_
 refine .seq<|?_
 refine T.cond_p rfl iff_eq (fun h1 h2=>?_) (fun h1 h2=>?_)
 ·refine .seq<|.region<|.p (fa 0 fl24_0 rfl)<|.p (ls sc4 rfl)<|.p (un rfl)<|.p (sg rfl)<|.nil<|.seq<|.ret<|.seq_ret<|fin_1 (.inr rfl) (.nil _) results143 (.t rfl) (AVle.refl _)
 ·refine .skip<|.seq<|.seq<|.region<|.p (fa 1 fl24_1 rfl)<|.p (ls sc22 rfl)<|.p (fa 1 fl24_1 rfl)<|.p (ls sc22 rfl)<|.p (ln underlying22 rfl)<|.p (ar rfl)<|.guard fun h3=>?_
  refine TR.st 16 (.iptr [(.int .u32 (a0.Mag.getD ((IntKind.i64.wrap ((a0.Mag.length:Int)-1)).toNat) (kInt .u32).z))]) [] (snd_indexK (kInt .u32) _ _ _ _ _ _ (IntKind.i64.wrap ((a0.Mag.length:Int)-1)) rfl underlying22 si77 rfl rfl rfl rfl h3) rfl rfl rfl ?_
  refine .p (lsi sc77 rfl)<|.p (ar rfl)<|.p (sg rfl)<|.nil<|.seq<|.ret<|fin_1 (.inr rfl) (.nil _) results143 (.t rfl) (AVle.refl _)
theorem zint_Right_p {a0:ApiInt} {r:Bool} (h:zint_Right a0=some r):Pur Tryz.prog 143 [(.agg (kN.enc a0))] (.bool r):=⟨⟨_,func143,nm143,rfl⟩,zint_Right_c a0 _ h,fun _=>(.a kN<|.nil),fun _=>(.bool _)⟩
theorem dyad_zero_c (a0:AD):∀ r,dyad_zero a0=some r→ACalls Tryz.prog 98 [(.agg (kD.enc a0))] (lw []) (.bool r) (ld []):=by
 unfold dyad_zero
 refine go 0 func98 ntmps98 rfl ?_
 intro E hE
 refine .seq<|.region<|.w (bx 0 rfl)<|.p (sg rfl)<|.nil<|.seq<|.seq<|.region<|.p (fa 0 fl26_0 rfl)<|.p (fa 1 fl24_1 rfl)<|.p (ls sc22 rfl)<|.p (ln underlying22 rfl)<|.p (ar rfl)<|.p (sg rfl)<|?_
 refine .nil<|.seq<|.ret<|fin_1 (.inr rfl) (.nil _) results98 (.t rfl) (AVle.refl _)
theorem dyad_zero_p {a0:AD} {r:Bool} (h:dyad_zero a0=some r):Pur Tryz.prog 98 [(.agg (kD.enc a0))] (.bool r):=⟨⟨_,func98,nm98,rfl⟩,dyad_zero_c a0 _ h,fun _=>(.a kD<|.nil),fun _=>(.bool _)⟩
theorem dyad_within_c (a0:Int) (a1:Int) (a2:Int):∀ r,dyad_within a0 a1 a2=some r→ACalls Tryz.prog 135 [(.int .i64 a0),(.int .i64 a1),(.int .i64 a2)] (lw []) (.bool r) (ld []):=by
 unfold dyad_within
 refine go 0 func135 ntmps135 rfl ?_
 intro E hE
 refine .seq<|.region<|.p (sg rfl)<|.nil<|.seq<|.seq<|?_
 refine T.cut (X:=Bool) (fun x=>dyad_within_j1 x) (fun x=>(mkS [(6,some (.bool x))] [])) ?_ ?_
 ·rintro y2
  dsimp only [dyad_within_j1]
  refine .seq<|.ret<|fin_1 (.inr rfl) (.nil _) results135 (.t rfl) (AVle.refl _)
 ·intro h2
  refine .region<|.p (mv rfl)<|.p (mv rfl)<|.p (ar rfl)<|.p (mv rfl)<|?_
  refine TR.gd 10 _ rfl iff_dec (fun h3=>?_) (fun h3=>?_)
  ·refine .p (mv rfl)<|.p (mv rfl)<|.p (ar rfl)<|.p (pt rfl)<|.p (sg rfl)<|.nil<|.weak (h2 (decide (a0≤a2))) (jn (m:=0) [] hE (.b rfl<|.nil) .nil rfl)
  ·refine .k rfl<|.k rfl<|.k rfl<|.p (pf rfl)<|.p (sg rfl)<|.nil<|.weak (h2 false) (jn (m:=0) [] hE (.b rfl<|.nil) .nil rfl)
theorem dyad_within_p {a0:Int} {a1:Int} {a2:Int} {r:Bool} (h:dyad_within a0 a1 a2=some r):Pur Tryz.prog 135 [(.int .i64 a0),(.int .i64 a1),(.int .i64 a2)] (.bool r):=⟨⟨_,func135,nm135,rfl⟩,dyad_within_c a0 a1 a2 _ h,fun _=>(.i<|.i<|.i<|.nil),fun _=>(.bool _)⟩
theorem dyad_Right_c (a0:AD):∀ r,dyad_Right a0=some r→ACalls Tryz.prog 83 [(.agg (kD.enc a0))] (lw []) (.bool r) (ld []):=by
 unfold dyad_Right
 refine go 0 func83 ntmps83 rfl ?_
 intro E hE
 refine .seq<|.region<|.w (bx 0 rfl)<|.p (sg rfl)<|.nil<|.seq<|.seq<|.seq<|.region<|.p (fa 0 fl26_0 rfl)<|.p (la ag24 rfl)<|.bind fun x6 h1=>.p (c0 (zint_Right_p h1) rfl)<|.p (un rfl)<|?_
 refine .nil<|.seq<|?_
 refine T.cond_p rfl iff_nb (fun h2 h3=>?_) (fun h2 h3=>?_)
 ·refine .seq<|.region<|.p (sg rfl)<|.nil<|.seq<|.ret<|.seq_ret<|fin_1 (.inr rfl) (.nil _) results83 (.t rfl) (AVle.refl _)
 ·refine .skip<|.seq<|.seq<|.seq<|.region<|.p (la ag26 rfl)<|.bind fun x7 h4=>.p (c0 (dyad_zero_p h4) rfl)<|.nil<|.seq<|?_
  refine T.cond_p rfl iff_b (fun h5 h6=>?_) (fun h5 h6=>?_)
  ·refine .seq<|.region<|.p (fa 2 fl26_1 rfl)<|.p (ls sc3 rfl)<|.p (ar rfl)<|.p (sg rfl)<|.nil<|.seq<|.ret<|.seq_ret<|fin_1 (.inr rfl) (.nil _) results83 (.t rfl) (AVle.refl _)
  ·refine .skip<|.seq<|.seq<|?_
   refine T.cut (X:=Bool) (fun x=>dyad_Right_j1 x) (fun x=>(mkS [(2,some (.bool x))] [])) ?_ ?_
   ·rintro y9
    dsimp only [dyad_Right_j1]
    refine .seq<|.ret<|fin_1 (.inr rfl) (.nil _) results83 (.t rfl) (AVle.refl _)
   ·intro h10
    refine .region<|.p (fa 0 fl26_0 rfl)<|.p (fa 1 fl24_1 rfl)<|.p (ls sc22 rfl)<|.guard fun h11=>?_
    refine TR.st 15 (.iptr [(.int .u32 (a0.M.Mag.getD 0 (kInt .u32).z))]) [] (snd_indexK (kInt .u32) _ _ _ _ _ _ 0 rfl underlying22 si77 rfl rfl rfl rfl h11) rfl rfl rfl ?_
    refine .p (lsi sc77 rfl)<|.p (ar rfl)<|.p (ar rfl)<|.p (mv rfl)<|?_
    refine TR.gd 19 _ rfl iff_ne (fun h12=>?_) (fun h12=>?_)
    ·refine .p (fa 2 fl26_1 rfl)<|.p (ls sc3 rfl)<|.bind fun x10 h13=>.p (c0 (dyad_within_p h13) rfl)<|.p (pt rfl)<|.p (sg rfl)<|.nil<|.weak (h10 x10) (jn (m:=0) [] hE (.b rfl<|.nil) .nil rfl)
    ·refine .k rfl<|.k rfl<|.k rfl<|.p (pf rfl)<|.p (sg rfl)<|.nil<|.weak (h10 false) (jn (m:=0) [] hE (.b rfl<|.nil) .nil rfl)
theorem dyad_Right_p {a0:AD} {r:Bool} (h:dyad_Right a0=some r):Pur Tryz.prog 83 [(.agg (kD.enc a0))] (.bool r):=⟨⟨_,func83,nm83,rfl⟩,dyad_Right_c a0 _ h,fun _=>(.a kD<|.nil),fun _=>(.bool _)⟩
theorem nat_Cmp_c (a0:List Int) (a1:List Int):∀ r,nat_Cmp a0 a1=some r→ACalls Tryz.prog 151 [(slK (kInt .u32) a0),(slK (kInt .u32) a1)] (lw []) (.int .i64 r) (ld []):=by
 unfold nat_Cmp
 refine go 0 func151 ntmps151 rfl ?_
 intro E hE
 refine .seq<|.region<|.p (sg rfl)<|.nil<|.seq<|.seq<|.region<|.p (mv rfl)<|.bind fun x7 h1=>.p (c0 (nat_trim_p h1) rfl)<|.p (mv rfl)<|.bind fun x8 h2=>.p (c0 (nat_trim_p h2) rfl)<|.p (sg rfl)<|?_
 refine .p (sg rfl)<|.nil<|.seq<|.seq<|.seq<|.region<|.p (mv rfl)<|.p (ln underlying22 rfl)<|.p (mv rfl)<|.p (ln underlying22 rfl)<|.p (ar rfl)<|.nil<|.seq<|?_
 refine T.cond_p rfl iff_ne (fun h3 h4=>?_) (fun h3 h4=>?_)
 ·refine .seq<|.seq<|.region<|.p (mv rfl)<|.p (ln underlying22 rfl)<|.p (mv rfl)<|.p (ln underlying22 rfl)<|.p (ar rfl)<|.nil<|.seq<|?_
  refine T.cond_p rfl iff_dec (fun h5 h6=>?_) (fun h5 h6=>?_)
  ·refine .seq<|.region<|.p (sg rfl)<|.nil<|.seq<|.ret<|.seq_ret<|.seq_ret<|fin_1 (.inr rfl) (.nil _) results151 (.t rfl) (AVle.refl _)
  ·refine .skip<|.seq<|.seq<|.region<|.p (sg rfl)<|.nil<|.seq<|.ret<|.seq_ret<|fin_1 (.inr rfl) (.nil _) results151 (.t rfl) (AVle.refl _)
 ·refine .skip<|.seq<|.seq<|.seq<|.region<|.p (mv rfl)<|.p (ln underlying22 rfl)<|.p (mv rfl)<|.nil<|.seq<|?_
  refine T.cut (X:=Unit) (fun x=>nat_Cmp_j1) (fun x=>(mkS [] [])) ?_ ?_
  ·rintro _
   dsimp only [nat_Cmp_j1]
   refine .seq<|.seq<|.region<|.p (sg rfl)<|.nil<|.seq<|.ret<|fin_1 (.inr rfl) (.nil _) results151 (.t rfl) (AVle.refl _)
  ·intro h73
   refine .block<|.loopW (X:=Int) (fun n x=>nat_Cmp_l2 x7 x8 n x) (fun x=>(mkS [(0,some (slK (kInt .u32) x7)),(1,some (slK (kInt .u32) x8)),(23,some (.int .i64 (x7.length:Int))),(24,some (.int .i64 x))] [])) 0 (jn (m:=0) [] hE (.l rfl<|.l rfl<|.i rfl<|.i rfl<|.nil) .nil rfl) (fun _=>rfl) rfl<|?_
   rintro n2 y12
   try dsimp only
   rw [nat_Cmp_l2]
   refine .seq<|.region<|.p (ar rfl)<|.nil<|.seq<|.seq<|?_
   refine T.cond_p rfl iff_dec (fun h118 h119=>?_) (fun h118 h119=>?_)
   ·refine .skip<|.seq<|.seq<|.block<|.seq<|.region<|.p (mv rfl)<|.p (sg rfl)<|.nil<|.seq<|.seq<|.draw mixed<|.p (mv rfl)<|.p (mv rfl)<|?_
    refine .p (ln underlying22 rfl)<|.p (ar rfl)<|.p (mv rfl)<|.p (ar rfl)<|.guard fun h130=>?_
    refine TD.st 33 (.iptr [(.int .u32 (x7.getD ((IntKind.i64.wrap ((IntKind.i64.wrap ((x7.length:Int)-1))-y12)).toNat) (kInt .u32).z))]) [] (snd_indexK (kInt .u32) _ _ _ _ _ _ (IntKind.i64.wrap ((IntKind.i64.wrap ((x7.length:Int)-1))-y12)) rfl underlying22 si77 rfl rfl rfl rfl h130) rfl rfl rfl ?_
    refine .p (lsi sc77 rfl)<|.p (mv rfl)<|.p (mv rfl)<|.p (ln underlying22 rfl)<|.p (ar rfl)<|.p (mv rfl)<|.p (ar rfl)<|.guard fun h131=>?_
    refine TD.st 41 (.iptr [(.int .u32 (x8.getD ((IntKind.i64.wrap ((IntKind.i64.wrap ((x8.length:Int)-1))-y12)).toNat) (kInt .u32).z))]) [] (snd_indexK (kInt .u32) _ _ _ _ _ _ (IntKind.i64.wrap ((IntKind.i64.wrap ((x8.length:Int)-1))-y12)) rfl underlying22 si77 rfl rfl rfl rfl h131) rfl rfl rfl ?_
    refine .p (lsi sc77 rfl)<|.p (sg rfl)<|.p (sg rfl)<|.nil (by kernel_rfl)<|.seq<|.block<|.seq<|.region<|.p (mv rfl)<|.p (mv rfl)<|.p (ar rfl)<|.p (sg rfl)<|.nil<|.seq<|?_
    refine T.cond_p rfl iff_dec (fun h136 h137=>?_) (fun h136 h137=>?_)
    ·refine .seq<|.region<|.p (sg rfl)<|.nil<|.seq<|.ret<|.block_ret<|.block_ret<|.seq_ret<|.loop_ret<|.block_ret<|.seq_ret<|fin_1 (.inr rfl) (.nil _) results151 (.t rfl) (AVle.refl _)
    ·refine .seq<|.region<|.p (mv rfl)<|.p (mv rfl)<|.p (ar rfl)<|.p (sg rfl)<|.nil<|.seq<|?_
     refine T.cond_p rfl iff_dec (fun h138 h139=>?_) (fun h138 h139=>?_)
     ·refine .seq<|.region<|.p (sg rfl)<|.nil<|.seq<|.ret<|.block_ret<|.block_ret<|.seq_ret<|.loop_ret<|.block_ret<|.seq_ret<|fin_1 (.inr rfl) (.nil _) results151 (.t rfl) (AVle.refl _)
     ·refine .skip<|.block<|.block<|.seq<|.region<|.p (ar rfl)<|.p (mv rfl)<|.nil<|.again (IntKind.i64.wrap (y12+1)) (jn (m:=0) [] hE (.l rfl<|.l rfl<|.i rfl<|.i rfl<|.nil) .nil rfl) rfl
   ·refine .exit<|.seq_exit<|.loop_exit<|.block_exit<|.weak (h73 ()) (jn (m:=0) [] hE .nil .nil rfl)
theorem nat_Cmp_p {a0:List Int} {a1:List Int} {r:Int} (h:nat_Cmp a0 a1=some r):Pur Tryz.prog 151 [(slK (kInt .u32) a0),(slK (kInt .u32) a1)] (.int .i64 r):=⟨⟨_,func151,nm151,rfl⟩,nat_Cmp_c a0 a1 _ h,fun _=>(.l<|.l<|.nil),fun _=>(.int _ _)⟩
theorem zint_Cmp_c (a0:ApiInt) (a1:ApiInt):∀ r,zint_Cmp a0 a1=some r→ACalls Tryz.prog 99 [(.agg (kN.enc a0)),(.agg (kN.enc a1))] (lw []) (.int .i64 r) (ld []):=by
 unfold zint_Cmp
 refine go 0 func99 ntmps99 rfl ?_
 intro E hE
 refine .seq<|.region<|.w (bx 0 rfl)<|.w (bx 1 rfl)<|.p (sg rfl)<|.nil<|.seq<|.seq<|.draw mixed<|.p (la ag24 rfl)<|.bind fun x14 h1=>.p (c0 (zint_of_p h1) rfl)<|.p (la ag24 rfl)<|.bind fun x15 h2=>?_
 refine .p (c0 (zint_of_p h2) rfl)<|.w (al 2 ze122 rfl)<|.w (al 3 ze122 rfl)<|.n (sa ag122 rfl)<|.n (sa ag122 rfl)<|.nil (by kernel_rfl)<|.seq<|.seq<|.block<|.seq<|?_
 refine T.cut (X:=Bool) (fun x=>zint_Cmp_j1 x14 x15 x) (fun x=>(mkS [(5,some (.ptr 2 0)),(6,some (.ptr 3 0)),(11,some (.bool x))] [(2,(.live 122 [(slK (kInt .u32) (((x14).size).mag)),(.bool ((x14).neg))])),(3,(.live 122 [(slK (kInt .u32) (((x15).size).mag)),(.bool ((x15).neg))]))])) ?_ ?_
 ·rintro y21
  dsimp only [zint_Cmp_j1]
  refine .seq<|?_
  refine T.cond_p rfl iff_b (fun h14 h15=>?_) (fun h14 h15=>?_)
  ·refine .seq<|.region<|.p (sg rfl)<|.nil<|.seq<|.ret<|.block_ret<|.seq_ret<|fin_1 (.inr rfl) (.nil _) results99 (.t rfl) (AVle.refl _)
  ·refine .seq<|.region<|.p (fa 1 fl122_1 rfl)<|.p (ls sc4 rfl)<|.p (fa 1 fl122_1 rfl)<|.p (ls sc4 rfl)<|?_
   refine TR.st 26 (.bool (((x14).neg) != ((x15).neg))) [] (snd_bool_neq _ _ _ _ _ _ rfl underlying4 rfl rfl rfl rfl) rfl rfl rfl ?_
   refine .p (sg rfl)<|.nil<|.seq<|?_
   refine T.cond_p rfl iff_b (fun h16 h17=>?_) (fun h16 h17=>?_)
   ·refine .seq<|.region<|.p (sg rfl)<|.nil<|.seq<|.ret<|.block_ret<|.seq_ret<|fin_1 (.inr rfl) (.nil _) results99 (.t rfl) (AVle.refl _)
   ·refine .seq<|.region<|.p (fa 1 fl122_1 rfl)<|.p (ls sc4 rfl)<|.p (sg rfl)<|.nil<|.seq<|?_
    refine T.cut (X:=(List Int) × Bool × (List Int) × Bool) (fun x=>zint_Cmp_j2 x.1 x.2.1 x.2.2.1 x.2.2.2) (fun x=>(mkS [(5,some (.ptr 2 0)),(6,some (.ptr 3 0))] [(2,(.live 122 [(slK (kInt .u32) x.1),(.bool x.2.1)])),(3,(.live 122 [(slK (kInt .u32) x.2.2.1),(.bool x.2.2.2)]))])) ?_ ?_
    ·rintro ⟨y22,y23,y24,y25⟩
     dsimp only [zint_Cmp_j2]
     refine .block<|.seq<|.seq<|.region<|.p (fa 0 fl122_0 rfl)<|.p (fa 0 fl120_0 rfl)<|.p (ls sc22 rfl)<|.p (fa 0 fl122_0 rfl)<|.p (fa 0 fl120_0 rfl)<|.p (ls sc22 rfl)<|.bind fun x26 h20=>.p (c0 (nat_Cmp_p h20) rfl)<|.p (sg rfl)<|.nil<|?_
     refine .seq<|.ret<|fin_1 (.inr rfl) (.nil _) results99 (.t rfl) (AVle.refl _)
    ·intro h21
     refine T.cond_p rfl iff_b (fun h22 h23=>?_) (fun h22 h23=>?_)
     ·refine .region<|.p (la ag122 rfl)<|.p (la ag122 rfl)<|.n (sa ag122 rfl)<|.n (sa ag122 rfl)<|.nil<|.weak (h21 (((x15).size).mag,(x15).neg,((x14).size).mag,(x14).neg)) (jn (m:=0) [(2,2),(3,3)] hE (.p rfl rfl<|.p rfl rfl<|.nil) (.v rfl (.l<|.b<|.nil)<|.v rfl (.l<|.b<|.nil)<|.nil) rfl)
     ·refine .skip<|.weak (h21 (((x14).size).mag,(x14).neg,((x15).size).mag,(x15).neg)) (jn (m:=0) [(2,2),(3,3)] hE (.p rfl rfl<|.p rfl rfl<|.nil) (.v rfl (.l<|.b<|.nil)<|.v rfl (.l<|.b<|.nil)<|.nil) rfl)
 ·intro h24
  refine .region<|.p (fa 1 fl122_1 rfl)<|.p (ls sc4 rfl)<|.p (fa 1 fl122_1 rfl)<|.p (ls sc4 rfl)<|?_
  refine TR.st 16 (.bool (((x14).neg) != ((x15).neg))) [] (snd_bool_neq _ _ _ _ _ _ rfl underlying4 rfl rfl rfl rfl) rfl rfl rfl ?_
  refine .p (mv rfl)<|?_
  refine TR.gd 17 _ rfl iff_b (fun h25=>?_) (fun h25=>?_)
  ·refine .p (fa 1 fl122_1 rfl)<|.p (ls sc4 rfl)<|.p (pt rfl)<|.p (sg rfl)<|.nil<|.weak (h24 (x14).neg) (jn (m:=0) [(2,2),(3,3)] hE (.p rfl rfl<|.p rfl rfl<|.b rfl<|.nil) (.v rfl (.l<|.b<|.nil)<|.v rfl (.l<|.b<|.nil)<|.nil) rfl)
  ·refine .k rfl<|.k rfl<|.p (pf rfl)<|.p (sg rfl)<|.nil<|.weak (h24 false) (jn (m:=0) [(2,2),(3,3)] hE (.p rfl rfl<|.p rfl rfl<|.b rfl<|.nil) (.v rfl (.l<|.b<|.nil)<|.v rfl (.l<|.b<|.nil)<|.nil) rfl)
theorem zint_Cmp_p {a0:ApiInt} {a1:ApiInt} {r:Int} (h:zint_Cmp a0 a1=some r):Pur Tryz.prog 99 [(.agg (kN.enc a0)),(.agg (kN.enc a1))] (.int .i64 r):=⟨⟨_,func99,nm99,rfl⟩,zint_Cmp_c a0 a1 _ h,fun _=>(.a kN<|.a kN<|.nil),fun _=>(.int _ _)⟩
theorem mb_Len32_c (a0:Int):∀ r,mb_Len32 a0=some r→ACalls Tryz.prog 187 [(.int .u32 a0)] (lw []) (.int .i64 r) (ld []):=by
 unfold mb_Len32
 refine go 0 func187 ntmps187 rfl ?_
 intro E hE
 refine .seq<|.region<|.p (sg rfl)<|.nil<|.seq<|.seq<|.seq<|.region<|.p (mv rfl)<|.p (ar rfl)<|.nil<|.seq<|?_
 refine T.cut (X:=Int × Int) (fun x=>mb_Len32_j1 x.1 x.2) (fun x=>(mkS [(0,some (.int .u32 x.1)),(2,some (.int .i64 x.2))] [])) ?_ ?_
 ·rintro ⟨y6,y7⟩
  dsimp only [mb_Len32_j1]
  refine .seq<|.seq<|.seq<|.region<|.p (mv rfl)<|.p (ar rfl)<|.nil<|.seq<|?_
  refine T.cut (X:=Int × Int) (fun x=>mb_Len32_j2 x.1 x.2) (fun x=>(mkS [(0,some (.int .u32 x.1)),(2,some (.int .i64 x.2))] [])) ?_ ?_
  ·rintro ⟨y8,y9⟩
   dsimp only [mb_Len32_j2]
   refine .seq<|.seq<|.region<|.p (mv rfl)<|.p (mv rfl)<|.p (cv underlying77 underlying5 rfl)<|.bind fun b10 h5=>?_
   refine TR.st 16 (.int .u8 (b10.toNat:Int)) [] (snd_index_s _ _ _ _ _ _ _ rfl underlying9 rfl rfl rfl rfl (str_lo h5) (str_at h5)) rfl rfl rfl ?_
   refine .p (cv underlying5 underlying3 rfl)<|.p (ar rfl)<|.p (sg rfl)<|.nil<|.seq<|.ret<|fin_1 (.inr rfl) (.nil _) results187 (.t rfl) (AVle.refl _)
  ·intro h6
   refine T.cond_p rfl iff_dec (fun h7 h8=>?_) (fun h7 h8=>?_)
   ·refine .seq<|.region<|.p (mv rfl)<|?_
    refine TR.st 10 (.int .u32 (shrI .u32 y6 8)) [] (snd_shr _ _ _ _ _ _ _ _ rfl rfl rfl rfl rfl (by decide)) rfl rfl rfl ?_
    refine .p (sg rfl)<|.nil<|.seq<|.region<|.p (mv rfl)<|.p (ar rfl)<|.p (sg rfl)<|.nil<|.weak (h6 ((shrI .u32 y6 8),(IntKind.i64.wrap (y7+8)))) (jn (m:=0) [] hE (.i rfl<|.i rfl<|.nil) .nil rfl)
   ·refine .skip<|.weak (h6 (y6,y7)) (jn (m:=0) [] hE (.i rfl<|.i rfl<|.nil) .nil rfl)
 ·intro h9
  refine T.cond_p rfl iff_dec (fun h10 h11=>?_) (fun h10 h11=>?_)
  ·refine .seq<|.region<|.p (mv rfl)<|?_
   refine TR.st 6 (.int .u32 (shrI .u32 a0 16)) [] (snd_shr _ _ _ _ _ _ _ _ rfl rfl rfl rfl rfl (by decide)) rfl rfl rfl ?_
   refine .p (sg rfl)<|.nil<|.seq<|.region<|.p (sg rfl)<|.nil<|.weak (h9 ((shrI .u32 a0 16),16)) (jn (m:=0) [] hE (.i rfl<|.i rfl<|.nil) .nil rfl)
  ·refine .skip<|.weak (h9 (a0,0)) (jn (m:=0) [] hE (.i rfl<|.i rfl<|.nil) .nil rfl)
theorem mb_Len32_p {a0:Int} {r:Int} (h:mb_Len32 a0=some r):Pur Tryz.prog 187 [(.int .u32 a0)] (.int .i64 r):=⟨⟨_,func187,nm187,rfl⟩,mb_Len32_c a0 _ h,fun _=>(.i<|.nil),fun _=>(.int _ _)⟩
theorem nat_Bits_c (a0:List Int):∀ r,nat_Bits a0=some r→ACalls Tryz.prog 146 [(slK (kInt .u32) a0)] (lw []) (.int .i64 r) (ld []):=by
 unfold nat_Bits
 refine go 0 func146 ntmps146 rfl ?_
 intro E hE
 refine .seq<|.region<|.p (sg rfl)<|.nil<|.seq<|.seq<|.region<|.p (mv rfl)<|.bind fun x3 h1=>.p (c0 (nat_trim_p h1) rfl)<|.p (sg rfl)<|.nil<|.seq<|.seq<|?_
 refine .seq<|.region<|.p (mv rfl)<|.p (ln underlying22 rfl)<|.p (ar rfl)<|.nil<|.seq<|?_
 refine T.cond_p rfl iff_eq (fun h2 h3=>?_) (fun h2 h3=>?_)
 ·refine .seq<|.region<|.p (sg rfl)<|.nil<|.seq<|.ret<|.seq_ret<|fin_1 (.inr rfl) (.nil _) results146 (.t rfl) (AVle.refl _)
 ·refine .skip<|.seq<|.seq<|.region<|.p (mv rfl)<|.p (ln underlying22 rfl)<|.p (ar rfl)<|.p (ar rfl)<|.p (mv rfl)<|.p (mv rfl)<|.p (ln underlying22 rfl)<|.p (ar rfl)<|.guard fun h4=>?_
  refine TR.st 16 (.iptr [(.int .u32 (x3.getD ((IntKind.i64.wrap ((x3.length:Int)-1)).toNat) (kInt .u32).z))]) [] (snd_indexK (kInt .u32) _ _ _ _ _ _ (IntKind.i64.wrap ((x3.length:Int)-1)) rfl underlying22 si77 rfl rfl rfl rfl h4) rfl rfl rfl ?_
  refine .p (lsi sc77 rfl)<|.bind fun x4 h5=>.p (c0 (mb_Len32_p h5) rfl)<|.p (ar rfl)<|.p (sg rfl)<|.nil<|.seq<|.ret<|fin_1 (.inr rfl) (.nil _) results146 (.t rfl) (AVle.refl _)
theorem nat_Bits_p {a0:List Int} {r:Int} (h:nat_Bits a0=some r):Pur Tryz.prog 146 [(slK (kInt .u32) a0)] (.int .i64 r):=⟨⟨_,func146,nm146,rfl⟩,nat_Bits_c a0 _ h,fun _=>(.l<|.nil),fun _=>(.int _ _)⟩
theorem dyad_size_c (a0:AD):∀ r,dyad_size a0=some r→ACalls Tryz.prog 100 [(.agg (kD.enc a0))] (lw []) (.int .i64 r) (ld []):=by
 unfold dyad_size
 refine go 0 func100 ntmps100 rfl ?_
 intro E hE
 refine .seq<|.region<|.w (bx 0 rfl)<|.p (sg rfl)<|.nil<|.seq<|.seq<|.draw mixed<|.p (fa 2 fl26_1 rfl)<|.p (ls sc3 rfl)<|.p (fa 0 fl26_0 rfl)<|.p (fa 1 fl24_1 rfl)<|.p (ls sc22 rfl)<|.bind fun x2 h1=>?_
 refine .p (c0 (nat_Bits_p h1) rfl)<|.p (ar rfl)<|.p (sg rfl)<|.nil (by kernel_rfl)<|.seq<|.ret<|fin_1 (.inr rfl) (.nil _) results100 (.t rfl) (AVle.refl _)
theorem dyad_size_p {a0:AD} {r:Int} (h:dyad_size a0=some r):Pur Tryz.prog 100 [(.agg (kD.enc a0))] (.int .i64 r):=⟨⟨_,func100,nm100,rfl⟩,dyad_size_c a0 _ h,fun _=>(.a kD<|.nil),fun _=>(.int _ _)⟩
theorem zint_Neg_c (a0:ApiInt):∀ r,zint_Neg a0=some r→ACalls Tryz.prog 138 [(.agg (kN.enc a0))] (lw []) (.agg (kN.enc (r))) (ld []):=by
 unfold zint_Neg
 refine go 0 func138 ntmps138 rfl ?_
 intro E hE
 refine .seq<|.region<|.w (bx 0 rfl)<|.w (al 1 ze24 rfl)<|.nil<|.seq<|.seq<|.region<|.p (fa 0 fl24_0 rfl)<|.p (ls sc4 rfl)<|.p (un rfl)<|.p (fa 1 fl24_1 rfl)<|.p (ls sc22 rfl)<|.bind fun x2 h1=>?_
 refine .p (c0 (zint_Make_p h1) rfl)<|.n (sa ag24 rfl)<|.nil<|.seq<|.ret<|fin_1 (.inr rfl) (.nil _) results138 (.a ag24 rfl) (AVle.refl _)
theorem zint_Neg_p {a0:ApiInt} {r:ApiInt} (h:zint_Neg a0=some r):Pur Tryz.prog 138 [(.agg (kN.enc a0))] (.agg (kN.enc (r))):=⟨⟨_,func138,nm138,rfl⟩,zint_Neg_c a0 _ h,fun _=>(.a kN<|.nil),fun _=>(ren_agg (K:=kN) _)⟩
theorem dyad_Neg_c (a0:AD):∀ r,dyad_Neg a0=some r→ACalls Tryz.prog 79 [(.agg (kD.enc a0))] (lw []) (.agg (kD.enc (⟨((r).M),(r).E⟩:AD))) (ld []):=by
 unfold dyad_Neg
 refine go 0 func79 ntmps79 rfl ?_
 intro E hE
 refine .seq<|.region<|.w (bx 0 rfl)<|.w (al 1 ze26 rfl)<|.nil<|.seq<|.seq<|.seq<|.region<|.p (la ag26 rfl)<|.bind fun x3 h1=>.p (c0 (dyad_Right_p h1) rfl)<|.p (un rfl)<|.nil<|?_
 refine .seq<|?_
 refine T.cond_p rfl iff_nb (fun h2 h3=>?_) (fun h2 h3=>?_)
 ·refine .seq<|.region<|.p (bd ze26 pl26 rfl)<|.n (sa ag26 rfl)<|.nil<|.seq<|.ret<|.seq_ret<|fin_1 (.inr rfl) (.nil _) results79 (.a ag26 rfl) (AVle.refl _)
 ·refine .skip<|.seq<|.seq<|.draw mixed<|.p (fa 0 fl26_0 rfl)<|.p (la ag24 rfl)<|.bind fun x4 h4=>.p (c0 (zint_Neg_p h4) rfl)<|.p (fa 2 fl26_1 rfl)<|.p (ls sc3 rfl)<|.p (bd ze26 pl26 rfl)<|.n (sa ag26 rfl)<|.nil (by kernel_rfl)<|.seq<|?_
  refine .ret<|fin_1 (.inr rfl) (.nil _) results79 (.a ag26 rfl) (AVle.refl _)
theorem dyad_Neg_p {a0:AD} {r:AD} (h:dyad_Neg a0=some r):Pur Tryz.prog 79 [(.agg (kD.enc a0))] (.agg (kD.enc (⟨((r).M),(r).E⟩:AD))):=⟨⟨_,func79,nm79,rfl⟩,dyad_Neg_c a0 _ h,fun _=>(.a kD<|.nil),fun _=>(ren_agg (K:=kD) _)⟩
theorem nat_Shl_c (a0:List Int) (a1:Int):∀ r,nat_Shl a0 a1=some r→ACalls Tryz.prog 185 [(slK (kInt .u32) a0),(.int .i64 a1)] (lw []) (.tup [(slK (kInt .u32) r.1),(.bool r.2)]) (ld []):=by
 unfold nat_Shl
 refine go 0 func185 ntmps185 rfl ?_
 intro E hE
 refine .seq<|.region<|?_
 refine TR.st 4 (slK (kInt .u32) []) [] (Snd.le (snd_assign _ _ rfl rfl rfl rfl) AVle.nil) rfl rfl rfl ?_
 refine .p (sg rfl)<|.nil<|.seq<|.seq<|.seq<|?_
 refine T.cut (X:=Bool) (fun x=>nat_Shl_j1 a0 a1 x) (fun x=>(mkS [(0,some (slK (kInt .u32) a0)),(1,some (.int .i64 a1)),(15,some (.bool x))] [])) ?_ ?_
 ·rintro y13
  dsimp only [nat_Shl_j1]
  refine .seq<|?_
  refine T.cond_p rfl iff_b (fun h2 h3=>?_) (fun h2 h3=>?_)
  ·refine .seq<|.region<|?_
   refine TR.st 4 (slK (kInt .u32) []) [] (Snd.le (snd_assign _ _ rfl rfl rfl rfl) AVle.nil) rfl rfl rfl ?_
   refine .p (sg rfl)<|.nil<|.seq<|.ret<|.seq_ret<|fin_2 (.inr rfl) (.nil _) results185 (.t rfl) (.t rfl) (AVle.refl _)
  ·refine .skip<|.seq<|.seq<|.region<|.p (mv rfl)<|.bind fun x14 h4=>.p (c0 (nat_trim_p h4) rfl)<|.p (sg rfl)<|.nil<|.seq<|.seq<|.region<|.p (mv rfl)<|?_
   refine TR.st 19 (.int .i64 (IntKind.i64.wrap (a1.tdiv 32))) [] (snd_quo _ _ _ _ _ _ _ rfl rfl rfl rfl rfl (by decide)) rfl rfl rfl ?_
   refine .p (mv rfl)<|.p (ln underlying22 rfl)<|.p (ar rfl)<|.p (ar rfl)<|.guard fun h5=>?_
   refine TR.st 24 (.row 0 (kInt .u32).sz 0 (((List.replicate ((IntKind.i64.wrap ((IntKind.i64.wrap ((IntKind.i64.wrap (a1.tdiv 32))+(x14.length:Int)))+1)).toNat) (kInt .u32).z)).length)) [(0,(rwK (kInt .u32) 77 (List.replicate ((IntKind.i64.wrap ((IntKind.i64.wrap ((IntKind.i64.wrap (a1.tdiv 32))+(x14.length:Int)))+1)).toNat) (kInt .u32).z)))] (snd_makeK (kInt .u32) _ _ _ _ _ 0 _ _ _ rfl underlying22 ze77 sb77 (by decide) rfl rfl rfl rfl rfl h5) rfl rfl rfl ?_
   refine .p (sg rfl)<|.nil<|.seq<|.seq<|.seq<|.region<|.p (mv rfl)<|.p (ln underlying22 rfl)<|.p (mv rfl)<|.nil<|.seq<|?_
   refine T.cut (X:=(List Int)) (fun x=>nat_Shl_j2 x) (fun x=>(mkS [(6,some (.row 0 (kInt .u32).sz 0 ((x).length)))] [(0,(rwK (kInt .u32) 77 x))])) ?_ ?_
   ·rintro y19
    dsimp only [nat_Shl_j2]
    refine .seq<|.seq<|?_
    refine T.weak ?_ (fun a w h=>Conc.freezeK (kInt .u32) h 6 0 0 ((y19).length) 77 y19 rfl rfl (by omega))
    refine T.weak ?_ (fun a w h=>take_all h)
    refine .region<|.p (mv rfl)<|.bind fun x20 h42=>.p (c0 (nat_trim_p h42) rfl)<|.p (sg rfl)<|.p (sg rfl)<|.nil<|.seq<|.ret<|fin_2 (.inr rfl) (.nil _) results185 (.t rfl) (.t rfl) (AVle.refl _)
   ·intro h43
    refine .block<|.loopW (X:=Int × (List Int)) (fun n x=>nat_Shl_l3 x14 a1 n x.1 x.2) (fun x=>(mkS [(1,some (.int .i64 a1)),(6,some (.row 0 (kInt .u32).sz 0 ((x.2).length))),(25,some (slK (kInt .u32) x14)),(26,some (.int .i64 (x14.length:Int))),(27,some (.int .i64 x.1))] [(0,(rwK (kInt .u32) 77 x.2))])) (0,(List.replicate ((IntKind.i64.wrap ((IntKind.i64.wrap ((IntKind.i64.wrap (a1.tdiv 32))+(x14.length:Int)))+1)).toNat) (kInt .u32).z)) (jn (m:=0) [(0,0)] hE (.i rfl<|.g rfl (.row _ _ _ _ _ rfl)<|.l rfl<|.i rfl<|.i rfl<|.nil) (.cons (.refl _) (renV_rw _ _)<|.nil) rfl) (fun _=>rfl) rfl<|?_
    rintro n3 ⟨y23,y24⟩
    try dsimp only
    rw [nat_Shl_l3]
    refine .seq<|.region<|.p (ar rfl)<|.nil<|.seq<|.seq<|?_
    refine T.cond_p rfl iff_dec (fun h68 h69=>?_) (fun h68 h69=>?_)
    ·refine .skip<|.seq<|.seq<|.block<|.seq<|.region<|.p (mv rfl)<|.guard fun h75=>?_
     refine TR.st 30 (.iptr [(.int .u32 (x14.getD y23.toNat (kInt .u32).z))]) [] (snd_indexK (kInt .u32) _ _ _ _ _ _ y23 rfl underlying22 si77 rfl rfl rfl rfl h75) rfl rfl rfl ?_
     refine .p (lsi sc77 rfl)<|.p (sg rfl)<|.p (sg rfl)<|.nil<|.seq<|.seq<|.region<|.p (mv rfl)<|.p (cv underlying77 underlying117 rfl)<|.p (mv rfl)<|?_
     refine TR.st 35 (.int .i64 (a1.tmod 32)) [] (snd_rem _ _ _ _ _ _ _ rfl rfl rfl rfl rfl (by decide)) rfl rfl rfl ?_
     refine .guard fun h76=>?_
     refine TR.st 36 (.int .u64 (shlI .u64 (IntKind.u64.wrap (x14.getD y23.toNat (kInt .u32).z)) (a1.tmod 32))) [] (snd_shl _ _ _ _ _ _ _ _ rfl rfl rfl rfl rfl h76) rfl rfl rfl ?_
     refine .p (sg rfl)<|.nil<|.seq<|.seq<|.region<|.p (mv rfl)<|.p (mv rfl)<|?_
     refine TR.st 39 (.int .i64 (IntKind.i64.wrap (a1.tdiv 32))) [] (snd_quo _ _ _ _ _ _ _ rfl rfl rfl rfl rfl (by decide)) rfl rfl rfl ?_
     refine .p (mv rfl)<|.p (ar rfl)<|.guard fun h77=>?_
     obtain ⟨h771,h772⟩:=h77
     refine TR.st 42 (.rptr 0 (kInt .u32).sz ((IntKind.i64.wrap ((IntKind.i64.wrap (a1.tdiv 32))+y23)).toNat) 0) [] (idx_r (snd_index_r _ _ _ _ _ 0 0 ((y24).length) _ (IntKind.i64.wrap ((IntKind.i64.wrap (a1.tdiv 32))+y23)) rfl underlying22 si77 rfl rfl rfl rfl h771 (by omega)) (Nat.zero_add _)) rfl rfl rfl ?_
     refine TR.st 43 (.int .u32 ((y24).getD ((IntKind.i64.wrap ((IntKind.i64.wrap (a1.tdiv 32))+y23)).toNat) (kInt .u32).z)) [] (snd_loadK_sca (kInt .u32) _ _ 0 ((IntKind.i64.wrap ((IntKind.i64.wrap (a1.tdiv 32))+y23)).toNat) 0 _ _ rfl sc77 rfl rfl rfl rfl (by first | omega | (simp only [List.length_set]; omega)) (by decide)) rfl rfl rfl ?_
     refine .p (mv rfl)<|.p (cv underlying117 underlying77 rfl)<|.p (ar rfl)<|.guard fun h78=>?_
     obtain ⟨h781,h782⟩:=h78
     refine TR.st 47 (.rptr 0 (kInt .u32).sz ((IntKind.i64.wrap ((IntKind.i64.wrap (a1.tdiv 32))+y23)).toNat) 0) [] (idx_r (snd_index_r _ _ _ _ _ 0 0 ((y24).length) _ (IntKind.i64.wrap ((IntKind.i64.wrap (a1.tdiv 32))+y23)) rfl underlying22 si77 rfl rfl rfl rfl h781 (by omega)) (Nat.zero_add _)) rfl rfl rfl ?_
     refine TR.sn [(0,(rwK (kInt .u32) 77 ((y24).set ((IntKind.i64.wrap ((IntKind.i64.wrap (a1.tdiv 32))+y23)).toNat) (orI .u32 ((y24).getD ((IntKind.i64.wrap ((IntKind.i64.wrap (a1.tdiv 32))+y23)).toNat) (kInt .u32).z) (IntKind.u32.wrap (shlI .u64 (IntKind.u64.wrap (x14.getD y23.toNat (kInt .u32).z)) (a1.tmod 32)))))))] (snd_storeK_sca (kInt .u32) _ _ _ 0 ((IntKind.i64.wrap ((IntKind.i64.wrap (a1.tdiv 32))+y23)).toNat) _ _ (orI .u32 ((y24).getD ((IntKind.i64.wrap ((IntKind.i64.wrap (a1.tdiv 32))+y23)).toNat) (kInt .u32).z) (IntKind.u32.wrap (shlI .u64 (IntKind.u64.wrap (x14.getD y23.toNat (kInt .u32).z)) (a1.tmod 32)))) _ rfl rfl rfl sc77 rfl rfl rfl rfl rfl rfl (by first | omega | (simp only [List.length_set]; omega))) rfl rfl ?_
     refine TR.weak ?_ (fun a w h=>Conc.relen h 6 ((((y24).set ((IntKind.i64.wrap ((IntKind.i64.wrap (a1.tdiv 32))+y23)).toNat) (orI .u32 ((y24).getD ((IntKind.i64.wrap ((IntKind.i64.wrap (a1.tdiv 32))+y23)).toNat) (kInt .u32).z) (IntKind.u32.wrap (shlI .u64 (IntKind.u64.wrap (x14.getD y23.toNat (kInt .u32).z)) (a1.tmod 32)))))).length) rfl List.length_set.symm)
     refine .nil<|.seq<|.region<|.p (mv rfl)<|.p (mv rfl)<|?_
     refine TR.st 50 (.int .i64 (IntKind.i64.wrap (a1.tdiv 32))) [] (snd_quo _ _ _ _ _ _ _ rfl rfl rfl rfl rfl (by decide)) rfl rfl rfl ?_
     refine .p (mv rfl)<|.p (ar rfl)<|.p (ar rfl)<|.p (mv rfl)<|?_
     refine TR.st 55 (.int .u64 (shrI .u64 (shlI .u64 (IntKind.u64.wrap (x14.getD y23.toNat (kInt .u32).z)) (a1.tmod 32)) 32)) [] (snd_shr _ _ _ _ _ _ _ _ rfl rfl rfl rfl rfl (by decide)) rfl rfl rfl ?_
     refine .p (cv underlying117 underlying77 rfl)<|.guard fun h79=>?_
     obtain ⟨h791,h792⟩:=h79
     refine TR.st 57 (.rptr 0 (kInt .u32).sz ((IntKind.i64.wrap ((IntKind.i64.wrap ((IntKind.i64.wrap (a1.tdiv 32))+y23))+1)).toNat) 0) [] (idx_r (snd_index_r _ _ _ _ _ 0 0 ((((y24).set ((IntKind.i64.wrap ((IntKind.i64.wrap (a1.tdiv 32))+y23)).toNat) (orI .u32 ((y24).getD ((IntKind.i64.wrap ((IntKind.i64.wrap (a1.tdiv 32))+y23)).toNat) (kInt .u32).z) (IntKind.u32.wrap (shlI .u64 (IntKind.u64.wrap (x14.getD y23.toNat (kInt .u32).z)) (a1.tmod 32)))))).length) _ (IntKind.i64.wrap ((IntKind.i64.wrap ((IntKind.i64.wrap (a1.tdiv 32))+y23))+1)) rfl underlying22 si77 rfl rfl rfl rfl h791 (by omega)) (Nat.zero_add _)) rfl rfl rfl ?_
     refine TR.sn [(0,(rwK (kInt .u32) 77 ((((y24).set ((IntKind.i64.wrap ((IntKind.i64.wrap (a1.tdiv 32))+y23)).toNat) (orI .u32 ((y24).getD ((IntKind.i64.wrap ((IntKind.i64.wrap (a1.tdiv 32))+y23)).toNat) (kInt .u32).z) (IntKind.u32.wrap (shlI .u64 (IntKind.u64.wrap (x14.getD y23.toNat (kInt .u32).z)) (a1.tmod 32)))))).set ((IntKind.i64.wrap ((IntKind.i64.wrap ((IntKind.i64.wrap (a1.tdiv 32))+y23))+1)).toNat) (IntKind.u32.wrap (shrI .u64 (shlI .u64 (IntKind.u64.wrap (x14.getD y23.toNat (kInt .u32).z)) (a1.tmod 32)) 32)))))] (snd_storeK_sca (kInt .u32) _ _ _ 0 ((IntKind.i64.wrap ((IntKind.i64.wrap ((IntKind.i64.wrap (a1.tdiv 32))+y23))+1)).toNat) _ _ (IntKind.u32.wrap (shrI .u64 (shlI .u64 (IntKind.u64.wrap (x14.getD y23.toNat (kInt .u32).z)) (a1.tmod 32)) 32)) _ rfl rfl rfl sc77 rfl rfl rfl rfl rfl rfl (by first | omega | (simp only [List.length_set]; omega))) rfl rfl ?_
     refine TR.weak ?_ (fun a w h=>Conc.relen h 6 ((((((y24).set ((IntKind.i64.wrap ((IntKind.i64.wrap (a1.tdiv 32))+y23)).toNat) (orI .u32 ((y24).getD ((IntKind.i64.wrap ((IntKind.i64.wrap (a1.tdiv 32))+y23)).toNat) (kInt .u32).z) (IntKind.u32.wrap (shlI .u64 (IntKind.u64.wrap (x14.getD y23.toNat (kInt .u32).z)) (a1.tmod 32)))))).set ((IntKind.i64.wrap ((IntKind.i64.wrap ((IntKind.i64.wrap (a1.tdiv 32))+y23))+1)).toNat) (IntKind.u32.wrap (shrI .u64 (shlI .u64 (IntKind.u64.wrap (x14.getD y23.toNat (kInt .u32).z)) (a1.tmod 32)) 32)))).length) rfl List.length_set.symm)
     refine .nil<|.block<|.seq<|.region<|.p (ar rfl)<|.p (mv rfl)<|.nil<|.again ((IntKind.i64.wrap (y23+1)),((((y24).set ((IntKind.i64.wrap ((IntKind.i64.wrap (a1.tdiv 32))+y23)).toNat) (orI .u32 ((y24).getD ((IntKind.i64.wrap ((IntKind.i64.wrap (a1.tdiv 32))+y23)).toNat) (kInt .u32).z) (IntKind.u32.wrap (shlI .u64 (IntKind.u64.wrap (x14.getD y23.toNat (kInt .u32).z)) (a1.tmod 32)))))).set ((IntKind.i64.wrap ((IntKind.i64.wrap ((IntKind.i64.wrap (a1.tdiv 32))+y23))+1)).toNat) (IntKind.u32.wrap (shrI .u64 (shlI .u64 (IntKind.u64.wrap (x14.getD y23.toNat (kInt .u32).z)) (a1.tmod 32)) 32)))) (jn (m:=0) [(0,0)] hE (.i rfl<|.g rfl (.row _ _ _ _ _ rfl)<|.l rfl<|.i rfl<|.i rfl<|.nil) (.cons (.refl _) (renV_rw _ _)<|.nil) rfl) rfl
    ·refine .exit<|.seq_exit<|.loop_exit<|.block_exit<|.weak (h43 y24) (jn (m:=0) [(0,0)] hE (.g rfl (.row _ _ _ _ _ rfl)<|.nil) (.cons (.refl _) (renV_rw _ _)<|.nil) rfl)
 ·intro h80
  refine .region<|.p (mv rfl)<|.p (ar rfl)<|.p (mv rfl)<|?_
  refine TR.gd 12 _ rfl iff_dec (fun h81=>?_) (fun h81=>?_)
  ·refine .k rfl<|.k rfl<|.p (pt rfl)<|.nil<|.weak (h80 true) (jn (m:=0) [] hE (.l rfl<|.i rfl<|.b rfl<|.nil) .nil rfl)
  ·refine .p (mv rfl)<|.p (ar rfl)<|.p (pf rfl)<|.nil<|.weak (h80 (decide (a1>100000))) (jn (m:=0) [] hE (.l rfl<|.i rfl<|.b rfl<|.nil) .nil rfl)
theorem nat_Shl_p {a0:List Int} {a1:Int} {r:(List Int) × Bool} (h:nat_Shl a0 a1=some r):Pur Tryz.prog 185 [(slK (kInt .u32) a0),(.int .i64 a1)] (.tup [(slK (kInt .u32) r.1),(.bool r.2)]):=⟨⟨_,func185,nm185,rfl⟩,nat_Shl_c a0 a1 _ h,fun _=>(.l<|.i<|.nil),fun _=>(ren_tupL (.l<|.b<|.nil))⟩
theorem dyad_up_c (a0:List Int) (a1:Int):∀ r,dyad_up a0 a1=some r→ACalls Tryz.prog 136 [(slK (kInt .u32) a0),(.int .i64 a1)] (lw []) (slK (kInt .u32) r) (ld []):=by
 unfold dyad_up
 refine go 0 func136 ntmps136 rfl ?_
 intro E hE
 refine .seq<|.region<|?_
 refine TR.st 4 (slK (kInt .u32) []) [] (Snd.le (snd_assign _ _ rfl rfl rfl rfl) AVle.nil) rfl rfl rfl ?_
 refine .nil<|.seq<|.seq<|?_
 refine T.cut (X:=(List Int) × Int) (fun x=>dyad_up_j1 x.1 x.2) (fun x=>(mkS [(0,some (slK (kInt .u32) x.1)),(1,some (.int .i64 x.2))] [])) ?_ ?_
 ·rintro ⟨y34,y35⟩
  dsimp only [dyad_up_j1]
  refine .seq<|.seq<|.region<|.p (mv rfl)<|.p (mv rfl)<|?_
  refine TR.st 17 (.int .i64 (mx y35 0)) [] (snd_max _ _ _ _ _ _ rfl rfl rfl rfl rfl) rfl rfl rfl ?_
  refine .bind fun x36 h13=>.p (c0 (nat_Shl_p h13) rfl)<|.p (mv rfl)<|.p (xt rfl)<|.p (xt rfl)<|.p (sg rfl)<|.nil<|.seq<|.seq<|.region<|.p (mv rfl)<|.p (sg rfl)<|.nil<|.seq<|?_
  refine .ret<|fin_1 (.inr rfl) (.nil _) results136 (.t rfl) (AVle.refl _)
 ·intro h14
  refine .block<|.loopW (X:=(List Int) × Int) (fun n x=>dyad_up_l2 n x.1 x.2) (fun x=>(mkS [(0,some (slK (kInt .u32) x.1)),(1,some (.int .i64 x.2))] [])) (a0,a1) (jn (m:=0) [] hE (.l rfl<|.i rfl<|.nil) .nil rfl) (fun _=>rfl) rfl<|?_
  rintro n2 ⟨y43,y44⟩
  try dsimp only
  rw [dyad_up_l2]
  refine .seq<|.seq<|.region<|.p (mv rfl)<|.p (ar rfl)<|.nil<|.seq<|?_
  refine T.cond_p rfl iff_dec (fun h23 h24=>?_) (fun h23 h24=>?_)
  ·refine .skip<|.seq<|.seq<|.block<|.region<|.p (mv rfl)<|.bind fun x46 h26=>.p (c0 (nat_Shl_p h26) rfl)<|.p (mv rfl)<|.p (xt rfl)<|.p (xt rfl)<|.p (sg rfl)<|.nil<|.block<|?_
   refine .seq<|.region<|.p (mv rfl)<|.p (ar rfl)<|.p (sg rfl)<|.nil<|.again (x46.1,(IntKind.i64.wrap (y44-100000))) (jn (m:=0) [] hE (.l rfl<|.i rfl<|.nil) .nil rfl) rfl
  ·refine .exit<|.seq_exit<|.loop_exit<|.block_exit<|.weak (h14 (y43,y44)) (jn (m:=0) [] hE (.l rfl<|.i rfl<|.nil) .nil rfl)
theorem dyad_up_p {a0:List Int} {a1:Int} {r:(List Int)} (h:dyad_up a0 a1=some r):Pur Tryz.prog 136 [(slK (kInt .u32) a0),(.int .i64 a1)] (slK (kInt .u32) r):=⟨⟨_,func136,nm136,rfl⟩,dyad_up_c a0 a1 _ h,fun _=>(.l<|.i<|.nil),fun _=>(ren_sl _)⟩
theorem mb_Add32_c (a0:Int) (a1:Int) (a2:Int):∀ r,mb_Add32 a0 a1 a2=some r→ACalls Tryz.prog 202 [(.int .u32 a0),(.int .u32 a1),(.int .u32 a2)] (lw []) (.tup [(.int .u32 r.1),(.int .u32 r.2)]) (ld []):=by
 unfold mb_Add32
 refine go 0 func202 ntmps202 rfl ?_
 intro E hE
 refine .seq<|.region<|.p (sg rfl)<|.p (sg rfl)<|.nil<|.seq<|.seq<|.region<|.p (mv rfl)<|.p (cv underlying77 underlying117 rfl)<|.p (mv rfl)<|.p (cv underlying77 underlying117 rfl)<|.p (ar rfl)<|.p (mv rfl)<|?_
 refine .p (cv underlying77 underlying117 rfl)<|.p (ar rfl)<|.p (sg rfl)<|.nil<|.seq<|.seq<|.region<|.p (mv rfl)<|.p (cv underlying117 underlying77 rfl)<|.p (sg rfl)<|.nil<|.seq<|.seq<|.region<|?_
 refine .p (mv rfl)<|?_
 refine TR.st 20 (.int .u64 (shrI .u64 (IntKind.u64.wrap ((IntKind.u64.wrap ((IntKind.u64.wrap a0)+(IntKind.u64.wrap a1)))+(IntKind.u64.wrap a2))) 32)) [] (snd_shr _ _ _ _ _ _ _ _ rfl rfl rfl rfl rfl (by decide)) rfl rfl rfl ?_
 refine .p (cv underlying117 underlying77 rfl)<|.p (sg rfl)<|.nil<|.seq<|.ret<|fin_2 (.inr rfl) (.nil _) results202 (.t rfl) (.t rfl) (AVle.refl _)
theorem mb_Add32_p {a0:Int} {a1:Int} {a2:Int} {r:Int × Int} (h:mb_Add32 a0 a1 a2=some r):Pur Tryz.prog 202 [(.int .u32 a0),(.int .u32 a1),(.int .u32 a2)] (.tup [(.int .u32 r.1),(.int .u32 r.2)]):=⟨⟨_,func202,nm202,rfl⟩,mb_Add32_c a0 a1 a2 _ h,fun _=>(.i<|.i<|.i<|.nil),fun _=>(ren_tupL (.i<|.i<|.nil))⟩
theorem nat_Add_c (a0:List Int) (a1:List Int):∀ r,nat_Add a0 a1=some r→ACalls Tryz.prog 177 [(slK (kInt .u32) a0),(slK (kInt .u32) a1)] (lw []) (slK (kInt .u32) r) (ld []):=by
 unfold nat_Add
 refine go 0 func177 ntmps177 rfl ?_
 intro E hE
 refine .seq<|.region<|?_
 refine TR.st 4 (slK (kInt .u32) []) [] (Snd.le (snd_assign _ _ rfl rfl rfl rfl) AVle.nil) rfl rfl rfl ?_
 refine .nil<|.seq<|.seq<|.seq<|.region<|.p (mv rfl)<|.p (ln underlying22 rfl)<|.p (mv rfl)<|.p (ln underlying22 rfl)<|.p (ar rfl)<|.nil<|.seq<|?_
 refine T.cut (X:=(List Int) × (List Int)) (fun x=>nat_Add_j1 x.1 x.2) (fun x=>(mkS [(0,some (slK (kInt .u32) x.1)),(1,some (slK (kInt .u32) x.2))] [])) ?_ ?_
 ·rintro ⟨y42,y43⟩
  dsimp only [nat_Add_j1]
  refine .seq<|.seq<|.region<|.p (mv rfl)<|.p (ln underlying22 rfl)<|.p (ar rfl)<|.guard fun h3=>?_
  refine TR.st 19 (.row 0 (kInt .u32).sz 0 (((List.replicate ((IntKind.i64.wrap ((y42.length:Int)+1)).toNat) (kInt .u32).z)).length)) [(0,(rwK (kInt .u32) 77 (List.replicate ((IntKind.i64.wrap ((y42.length:Int)+1)).toNat) (kInt .u32).z)))] (snd_makeK (kInt .u32) _ _ _ _ _ 0 _ _ _ rfl underlying22 ze77 sb77 (by decide) rfl rfl rfl rfl rfl h3) rfl rfl rfl ?_
  refine .p (sg rfl)<|.nil<|.seq<|.seq<|.region<|.p (sg rfl)<|.nil<|.seq<|.seq<|.seq<|.region<|.p (mv rfl)<|.p (ln underlying22 rfl)<|.p (mv rfl)<|?_
  refine .nil<|.seq<|?_
  refine T.cut (X:=Int × (List Int)) (fun x=>nat_Add_j2 y42 x.1 x.2) (fun x=>(mkS [(0,some (slK (kInt .u32) y42)),(5,some (.row 0 (kInt .u32).sz 0 ((x.2).length))),(6,some (.int .u32 x.1))] [(0,(rwK (kInt .u32) 77 x.2))])) ?_ ?_
  ·rintro ⟨y62,y63⟩
   dsimp only [nat_Add_j2]
   refine .seq<|.seq<|.region<|.p (mv rfl)<|.p (mv rfl)<|.p (ln underlying22 rfl)<|.p (mv rfl)<|.guard fun h64=>?_
   obtain ⟨h641,h642⟩:=h64
   refine TR.st 51 (.rptr 0 (kInt .u32).sz y42.length 0) [] (idx_r (snd_index_r _ _ _ _ _ 0 0 ((y63).length) _ (y42.length:Int) rfl underlying22 si77 rfl rfl rfl rfl h641 (by omega)) (Nat.zero_add _)) rfl rfl rfl ?_
   refine TR.sn [(0,(rwK (kInt .u32) 77 ((y63).set y42.length y62)))] (snd_storeK_sca (kInt .u32) _ _ _ 0 y42.length _ _ y62 _ rfl rfl rfl sc77 rfl rfl rfl rfl rfl rfl (by first | omega | (simp only [List.length_set]; omega))) rfl rfl ?_
   refine TR.weak ?_ (fun a w h=>Conc.relen h 5 ((((y63).set y42.length y62)).length) rfl List.length_set.symm)
   refine .nil<|.seq<|.seq<|?_
   refine T.weak ?_ (fun a w h=>Conc.freezeK (kInt .u32) h 5 0 0 ((((y63).set y42.length y62)).length) 77 ((y63).set y42.length y62) rfl rfl (by omega))
   refine T.weak ?_ (fun a w h=>take_all h)
   refine .region<|.p (mv rfl)<|.bind fun x64 h65=>.p (c0 (nat_trim_p h65) rfl)<|.p (sg rfl)<|.nil<|.seq<|.ret<|fin_1 (.inr rfl) (.nil _) results177 (.t rfl) (AVle.refl _)
  ·intro h66
   refine .block<|.loopW (X:=Int × Int × (List Int)) (fun n x=>nat_Add_l3 y42 y43 n x.1 x.2.1 x.2.2) (fun x=>(mkS [(0,some (slK (kInt .u32) y42)),(1,some (slK (kInt .u32) y43)),(5,some (.row 0 (kInt .u32).sz 0 ((x.2.2).length))),(6,some (.int .u32 x.1)),(21,some (.int .i64 (y42.length:Int))),(22,some (.int .i64 x.2.1))] [(0,(rwK (kInt .u32) 77 x.2.2))])) (0,0,(List.replicate ((IntKind.i64.wrap ((y42.length:Int)+1)).toNat) (kInt .u32).z)) (jn (m:=0) [(0,0)] hE (.l rfl<|.l rfl<|.g rfl (.row _ _ _ _ _ rfl)<|.i rfl<|.i rfl<|.i rfl<|.nil) (.cons (.refl _) (renV_rw _ _)<|.nil) rfl) (fun _=>rfl) rfl<|?_
   rintro n3 ⟨y76,y77,y78⟩
   try dsimp only
   rw [nat_Add_l3]
   refine .seq<|.region<|.p (ar rfl)<|.nil<|.seq<|.seq<|?_
   refine T.cond_p rfl iff_dec (fun h107 h108=>?_) (fun h107 h108=>?_)
   ·refine .skip<|.seq<|.seq<|.block<|.seq<|.region<|.p (mv rfl)<|.p (sg rfl)<|.nil<|.seq<|.seq<|.region<|.p (sg rfl)<|.nil<|?_
    refine .seq<|.seq<|.seq<|.region<|.p (mv rfl)<|.p (mv rfl)<|.p (ln underlying22 rfl)<|.p (ar rfl)<|.nil<|.seq<|?_
    refine T.cut (X:=Int) (fun x=>nat_Add_j4 y77 y42 y76 y78 (fun z0 z1 z2=>nat_Add_l3 y42 y43 n3 z0 z1 z2) x) (fun x=>(mkS [(0,some (slK (kInt .u32) y42)),(1,some (slK (kInt .u32) y43)),(5,some (.row 0 (kInt .u32).sz 0 ((y78).length))),(6,some (.int .u32 y76)),(7,some (.int .i64 y77)),(8,some (.int .u32 x)),(21,some (.int .i64 (y42.length:Int))),(22,some (.int .i64 y77))] [(0,(rwK (kInt .u32) 77 y78))])) ?_ ?_
    ·rintro y81
     dsimp only [nat_Add_j4]
     refine .seq<|.region<|.p (mv rfl)<|.p (mv rfl)<|.p (mv rfl)<|.p (mv rfl)<|.guard fun h121=>?_
     refine TR.st 38 (.iptr [(.int .u32 (y42.getD y77.toNat (kInt .u32).z))]) [] (snd_indexK (kInt .u32) _ _ _ _ _ _ y77 rfl underlying22 si77 rfl rfl rfl rfl h121) rfl rfl rfl ?_
     refine .p (lsi sc77 rfl)<|.p (mv rfl)<|.p (mv rfl)<|.bind fun x82 h122=>.p (c0 (mb_Add32_p h122) rfl)<|.p (mv rfl)<|.p (xt rfl)<|.p (xt rfl)<|.guard fun h123=>?_
     obtain ⟨h1231,h1232⟩:=h123
     refine TR.st 45 (.rptr 0 (kInt .u32).sz y77.toNat 0) [] (idx_r (snd_index_r _ _ _ _ _ 0 0 ((y78).length) _ y77 rfl underlying22 si77 rfl rfl rfl rfl h1231 (by omega)) (Nat.zero_add _)) rfl rfl rfl ?_
     refine TR.sn [(0,(rwK (kInt .u32) 77 ((y78).set y77.toNat x82.1)))] (snd_storeK_sca (kInt .u32) _ _ _ 0 y77.toNat _ _ x82.1 _ rfl rfl rfl sc77 rfl rfl rfl rfl rfl rfl (by first | omega | (simp only [List.length_set]; omega))) rfl rfl ?_
     refine TR.weak ?_ (fun a w h=>Conc.relen h 5 ((((y78).set y77.toNat x82.1)).length) rfl List.length_set.symm)
     refine .p (sg rfl)<|.nil<|.block<|.seq<|.region<|.p (ar rfl)<|.p (mv rfl)<|.nil<|.again (x82.2,(IntKind.i64.wrap (y77+1)),((y78).set y77.toNat x82.1)) (jn (m:=0) [(0,0)] hE (.l rfl<|.l rfl<|.g rfl (.row _ _ _ _ _ rfl)<|.i rfl<|.i rfl<|.i rfl<|.nil) (.cons (.refl _) (renV_rw _ _)<|.nil) rfl) rfl
    ·intro h124
     refine T.cond_p rfl iff_dec (fun h125 h126=>?_) (fun h125 h126=>?_)
     ·refine .region<|.p (mv rfl)<|.p (mv rfl)<|.guard fun h127=>?_
      refine TR.st 31 (.iptr [(.int .u32 (y43.getD y77.toNat (kInt .u32).z))]) [] (snd_indexK (kInt .u32) _ _ _ _ _ _ y77 rfl underlying22 si77 rfl rfl rfl rfl h127) rfl rfl rfl ?_
      refine .p (lsi sc77 rfl)<|.p (sg rfl)<|.nil<|.weak (h124 (y43.getD y77.toNat (kInt .u32).z)) (jn (m:=0) [(0,0)] hE (.l rfl<|.l rfl<|.g rfl (.row _ _ _ _ _ rfl)<|.i rfl<|.i rfl<|.i rfl<|.i rfl<|.i rfl<|.nil) (.cons (.refl _) (renV_rw _ _)<|.nil) rfl)
     ·refine .skip<|.weak (h124 0) (jn (m:=0) [(0,0)] hE (.l rfl<|.l rfl<|.g rfl (.row _ _ _ _ _ rfl)<|.i rfl<|.i rfl<|.i rfl<|.i rfl<|.i rfl<|.nil) (.cons (.refl _) (renV_rw _ _)<|.nil) rfl)
   ·refine .exit<|.seq_exit<|.loop_exit<|.block_exit<|.weak (h66 (y76,y78)) (jn (m:=0) [(0,0)] hE (.l rfl<|.g rfl (.row _ _ _ _ _ rfl)<|.i rfl<|.nil) (.cons (.refl _) (renV_rw _ _)<|.nil) rfl)
 ·intro h128
  refine T.cond_p rfl iff_dec (fun h129 h130=>?_) (fun h129 h130=>?_)
  ·refine .region<|.p (mv rfl)<|.p (mv rfl)<|.p (sg rfl)<|.p (sg rfl)<|.nil<|.weak (h128 (a1,a0)) (jn (m:=0) [] hE (.l rfl<|.l rfl<|.nil) .nil rfl)
  ·refine .skip<|.weak (h128 (a0,a1)) (jn (m:=0) [] hE (.l rfl<|.l rfl<|.nil) .nil rfl)
theorem nat_Add_p {a0:List Int} {a1:List Int} {r:(List Int)} (h:nat_Add a0 a1=some r):Pur Tryz.prog 177 [(slK (kInt .u32) a0),(slK (kInt .u32) a1)] (slK (kInt .u32) r):=⟨⟨_,func177,nm177,rfl⟩,nat_Add_c a0 a1 _ h,fun _=>(.l<|.l<|.nil),fun _=>(ren_sl _)⟩
theorem mb_Sub32_c (a0:Int) (a1:Int) (a2:Int):∀ r,mb_Sub32 a0 a1 a2=some r→ACalls Tryz.prog 203 [(.int .u32 a0),(.int .u32 a1),(.int .u32 a2)] (lw []) (.tup [(.int .u32 r.1),(.int .u32 r.2)]) (ld []):=by
 unfold mb_Sub32
 refine go 0 func203 ntmps203 rfl ?_
 intro E hE
 refine .seq<|.region<|.p (sg rfl)<|.p (sg rfl)<|.nil<|.seq<|.seq<|.region<|.p (mv rfl)<|.p (mv rfl)<|.p (ar rfl)<|.p (mv rfl)<|.p (ar rfl)<|.p (sg rfl)<|?_
 refine .nil<|.seq<|.seq<|.region<|.p (mv rfl)<|.p (un rfl)<|.p (mv rfl)<|.p (ar rfl)<|.p (mv rfl)<|.p (mv rfl)<|.p (ar rfl)<|.p (un rfl)<|.p (mv rfl)<|.p (ar rfl)<|?_
 refine .p (ar rfl)<|?_
 refine TR.st 24 (.int .u32 (shrI .u32 (orI .u32 (andI .u32 (notI .u32 a0) a1) (andI .u32 (notI .u32 (xorI .u32 a0 a1)) (IntKind.u32.wrap ((IntKind.u32.wrap (a0-a1))-a2)))) 31)) [] (snd_shr _ _ _ _ _ _ _ _ rfl rfl rfl rfl rfl (by decide)) rfl rfl rfl ?_
 refine .p (sg rfl)<|.nil<|.seq<|.ret<|fin_2 (.inr rfl) (.nil _) results203 (.t rfl) (.t rfl) (AVle.refl _)
theorem mb_Sub32_p {a0:Int} {a1:Int} {a2:Int} {r:Int × Int} (h:mb_Sub32 a0 a1 a2=some r):Pur Tryz.prog 203 [(.int .u32 a0),(.int .u32 a1),(.int .u32 a2)] (.tup [(.int .u32 r.1),(.int .u32 r.2)]):=⟨⟨_,func203,nm203,rfl⟩,mb_Sub32_c a0 a1 a2 _ h,fun _=>(.i<|.i<|.i<|.nil),fun _=>(ren_tupL (.i<|.i<|.nil))⟩
theorem nat_Sub_c (a0:List Int) (a1:List Int):∀ r,nat_Sub a0 a1=some r→ACalls Tryz.prog 178 [(slK (kInt .u32) a0),(slK (kInt .u32) a1)] (lw []) (.tup [(slK (kInt .u32) r.1),(.bool r.2)]) (ld []):=by
 unfold nat_Sub
 refine go 0 func178 ntmps178 rfl ?_
 intro E hE
 refine .seq<|.region<|?_
 refine TR.st 4 (slK (kInt .u32) []) [] (Snd.le (snd_assign _ _ rfl rfl rfl rfl) AVle.nil) rfl rfl rfl ?_
 refine .p (sg rfl)<|.nil<|.seq<|.seq<|.region<|.p (mv rfl)<|.bind fun x42 h1=>.p (c0 (nat_trim_p h1) rfl)<|.p (mv rfl)<|.bind fun x43 h2=>.p (c0 (nat_trim_p h2) rfl)<|.p (sg rfl)<|.p (sg rfl)<|.nil<|?_
 refine .seq<|.seq<|.seq<|.region<|.p (mv rfl)<|.p (ln underlying22 rfl)<|.p (mv rfl)<|.p (ln underlying22 rfl)<|.p (ar rfl)<|.nil<|.seq<|?_
 refine T.cond_p rfl iff_dec (fun h3 h4=>?_) (fun h3 h4=>?_)
 ·refine .seq<|.region<|?_
  refine TR.st 4 (slK (kInt .u32) []) [] (Snd.le (snd_assign _ _ rfl rfl rfl rfl) AVle.nil) rfl rfl rfl ?_
  refine .p (sg rfl)<|.nil<|.seq<|.ret<|.seq_ret<|fin_2 (.inr rfl) (.nil _) results178 (.t rfl) (.t rfl) (AVle.refl _)
 ·refine .skip<|.seq<|.seq<|.region<|.p (mv rfl)<|.p (ln underlying22 rfl)<|.guard fun h5=>?_
  refine TR.st 21 (.row 0 (kInt .u32).sz 0 (((List.replicate x42.length (kInt .u32).z)).length)) [(0,(rwK (kInt .u32) 77 (List.replicate x42.length (kInt .u32).z)))] (snd_makeK (kInt .u32) _ _ _ _ _ 0 _ _ _ rfl underlying22 ze77 sb77 (by decide) rfl rfl rfl rfl rfl h5) rfl rfl rfl ?_
  refine .p (sg rfl)<|.nil<|.seq<|.seq<|.region<|.p (sg rfl)<|.nil<|.seq<|.seq<|.seq<|.region<|.p (mv rfl)<|.p (ln underlying22 rfl)<|.p (mv rfl)<|?_
  refine .nil<|.seq<|?_
  refine T.cut (X:=Int × (List Int)) (fun x=>nat_Sub_j1 x.1 x.2) (fun x=>(mkS [(6,some (.row 0 (kInt .u32).sz 0 ((x.2).length))),(7,some (.int .u32 x.1))] [(0,(rwK (kInt .u32) 77 x.2))])) ?_ ?_
  ·rintro ⟨y62,y63⟩
   dsimp only [nat_Sub_j1]
   refine .seq<|.seq<|.seq<|.region<|.p (mv rfl)<|.p (ar rfl)<|.nil<|.seq<|?_
   refine T.cond_p rfl iff_dec (fun h66 h67=>?_) (fun h66 h67=>?_)
   ·refine .seq<|.region<|?_
    refine TR.st 4 (slK (kInt .u32) []) [] (Snd.le (snd_assign _ _ rfl rfl rfl rfl) AVle.nil) rfl rfl rfl ?_
    refine .p (sg rfl)<|.nil<|.seq<|.ret<|.seq_ret<|fin_2 (.inr rfl) (.nil _) results178 (.t rfl) (.t rfl) (AVle.refl _)
   ·refine .skip<|.seq<|.seq<|?_
    refine T.weak ?_ (fun a w h=>Conc.freezeK (kInt .u32) h 6 0 0 ((y63).length) 77 y63 rfl rfl (by omega))
    refine T.weak ?_ (fun a w h=>take_all h)
    refine .region<|.p (mv rfl)<|.bind fun x64 h68=>.p (c0 (nat_trim_p h68) rfl)<|.p (sg rfl)<|.p (sg rfl)<|.nil<|.seq<|.ret<|fin_2 (.inr rfl) (.nil _) results178 (.t rfl) (.t rfl) (AVle.refl _)
  ·intro h69
   refine .block<|.loopW (X:=Int × Int × (List Int)) (fun n x=>nat_Sub_l2 x42 x43 n x.1 x.2.1 x.2.2) (fun x=>(mkS [(0,some (slK (kInt .u32) x42)),(1,some (slK (kInt .u32) x43)),(6,some (.row 0 (kInt .u32).sz 0 ((x.2.2).length))),(7,some (.int .u32 x.1)),(23,some (.int .i64 (x42.length:Int))),(24,some (.int .i64 x.2.1))] [(0,(rwK (kInt .u32) 77 x.2.2))])) (0,0,(List.replicate x42.length (kInt .u32).z)) (jn (m:=0) [(0,0)] hE (.l rfl<|.l rfl<|.g rfl (.row _ _ _ _ _ rfl)<|.i rfl<|.i rfl<|.i rfl<|.nil) (.cons (.refl _) (renV_rw _ _)<|.nil) rfl) (fun _=>rfl) rfl<|?_
   rintro n2 ⟨y76,y77,y78⟩
   try dsimp only
   rw [nat_Sub_l2]
   refine .seq<|.region<|.p (ar rfl)<|.nil<|.seq<|.seq<|?_
   refine T.cond_p rfl iff_dec (fun h110 h111=>?_) (fun h110 h111=>?_)
   ·refine .skip<|.seq<|.seq<|.block<|.seq<|.region<|.p (mv rfl)<|.p (sg rfl)<|.nil<|.seq<|.seq<|.region<|.p (sg rfl)<|.nil<|?_
    refine .seq<|.seq<|.seq<|.region<|.p (mv rfl)<|.p (mv rfl)<|.p (ln underlying22 rfl)<|.p (ar rfl)<|.nil<|.seq<|?_
    refine T.cut (X:=Int) (fun x=>nat_Sub_j3 y77 x42 y76 y78 (fun z0 z1 z2=>nat_Sub_l2 x42 x43 n2 z0 z1 z2) x) (fun x=>(mkS [(0,some (slK (kInt .u32) x42)),(1,some (slK (kInt .u32) x43)),(6,some (.row 0 (kInt .u32).sz 0 ((y78).length))),(7,some (.int .u32 y76)),(8,some (.int .i64 y77)),(9,some (.int .u32 x)),(23,some (.int .i64 (x42.length:Int))),(24,some (.int .i64 y77))] [(0,(rwK (kInt .u32) 77 y78))])) ?_ ?_
    ·rintro y81
     dsimp only [nat_Sub_j3]
     refine .seq<|.region<|.p (mv rfl)<|.p (mv rfl)<|.p (mv rfl)<|.p (mv rfl)<|.guard fun h124=>?_
     refine TR.st 40 (.iptr [(.int .u32 (x42.getD y77.toNat (kInt .u32).z))]) [] (snd_indexK (kInt .u32) _ _ _ _ _ _ y77 rfl underlying22 si77 rfl rfl rfl rfl h124) rfl rfl rfl ?_
     refine .p (lsi sc77 rfl)<|.p (mv rfl)<|.p (mv rfl)<|.bind fun x82 h125=>.p (c0 (mb_Sub32_p h125) rfl)<|.p (mv rfl)<|.p (xt rfl)<|.p (xt rfl)<|.guard fun h126=>?_
     obtain ⟨h1261,h1262⟩:=h126
     refine TR.st 47 (.rptr 0 (kInt .u32).sz y77.toNat 0) [] (idx_r (snd_index_r _ _ _ _ _ 0 0 ((y78).length) _ y77 rfl underlying22 si77 rfl rfl rfl rfl h1261 (by omega)) (Nat.zero_add _)) rfl rfl rfl ?_
     refine TR.sn [(0,(rwK (kInt .u32) 77 ((y78).set y77.toNat x82.1)))] (snd_storeK_sca (kInt .u32) _ _ _ 0 y77.toNat _ _ x82.1 _ rfl rfl rfl sc77 rfl rfl rfl rfl rfl rfl (by first | omega | (simp only [List.length_set]; omega))) rfl rfl ?_
     refine TR.weak ?_ (fun a w h=>Conc.relen h 6 ((((y78).set y77.toNat x82.1)).length) rfl List.length_set.symm)
     refine .p (sg rfl)<|.nil<|.block<|.seq<|.region<|.p (ar rfl)<|.p (mv rfl)<|.nil<|.again (x82.2,(IntKind.i64.wrap (y77+1)),((y78).set y77.toNat x82.1)) (jn (m:=0) [(0,0)] hE (.l rfl<|.l rfl<|.g rfl (.row _ _ _ _ _ rfl)<|.i rfl<|.i rfl<|.i rfl<|.nil) (.cons (.refl _) (renV_rw _ _)<|.nil) rfl) rfl
    ·intro h127
     refine T.cond_p rfl iff_dec (fun h128 h129=>?_) (fun h128 h129=>?_)
     ·refine .region<|.p (mv rfl)<|.p (mv rfl)<|.guard fun h130=>?_
      refine TR.st 33 (.iptr [(.int .u32 (x43.getD y77.toNat (kInt .u32).z))]) [] (snd_indexK (kInt .u32) _ _ _ _ _ _ y77 rfl underlying22 si77 rfl rfl rfl rfl h130) rfl rfl rfl ?_
      refine .p (lsi sc77 rfl)<|.p (sg rfl)<|.nil<|.weak (h127 (x43.getD y77.toNat (kInt .u32).z)) (jn (m:=0) [(0,0)] hE (.l rfl<|.l rfl<|.g rfl (.row _ _ _ _ _ rfl)<|.i rfl<|.i rfl<|.i rfl<|.i rfl<|.i rfl<|.nil) (.cons (.refl _) (renV_rw _ _)<|.nil) rfl)
     ·refine .skip<|.weak (h127 0) (jn (m:=0) [(0,0)] hE (.l rfl<|.l rfl<|.g rfl (.row _ _ _ _ _ rfl)<|.i rfl<|.i rfl<|.i rfl<|.i rfl<|.i rfl<|.nil) (.cons (.refl _) (renV_rw _ _)<|.nil) rfl)
   ·refine .exit<|.seq_exit<|.loop_exit<|.block_exit<|.weak (h69 (y76,y78)) (jn (m:=0) [(0,0)] hE (.g rfl (.row _ _ _ _ _ rfl)<|.i rfl<|.nil) (.cons (.refl _) (renV_rw _ _)<|.nil) rfl)
theorem nat_Sub_p {a0:List Int} {a1:List Int} {r:(List Int) × Bool} (h:nat_Sub a0 a1=some r):Pur Tryz.prog 178 [(slK (kInt .u32) a0),(slK (kInt .u32) a1)] (.tup [(slK (kInt .u32) r.1),(.bool r.2)]):=⟨⟨_,func178,nm178,rfl⟩,nat_Sub_c a0 a1 _ h,fun _=>(.l<|.l<|.nil),fun _=>(ren_tupL (.l<|.b<|.nil))⟩
theorem zint_Add_c (a0:ApiInt) (a1:ApiInt):∀ r,zint_Add a0 a1=some r→ACalls Tryz.prog 126 [(.agg (kN.enc a0)),(.agg (kN.enc a1))] (lw []) (.agg (kN.enc (r))) (ld []):=by
 unfold zint_Add
 refine go 0 func126 ntmps126 rfl ?_
 intro E hE
 refine .seq<|.region<|.w (bx 0 rfl)<|.w (bx 1 rfl)<|.w (al 2 ze24 rfl)<|.nil<|.seq<|.seq<|.draw mixed<|.p (la ag24 rfl)<|.bind fun x12 h1=>.p (c0 (zint_of_p h1) rfl)<|.p (la ag24 rfl)<|.bind fun x13 h2=>?_
 refine .p (c0 (zint_of_p h2) rfl)<|.w (al 3 ze122 rfl)<|.w (al 4 ze122 rfl)<|.n (sa ag122 rfl)<|.n (sa ag122 rfl)<|.nil (by kernel_rfl)<|.seq<|.seq<|.seq<|.region<|.p (fa 1 fl122_1 rfl)<|.p (ls sc4 rfl)<|.p (fa 1 fl122_1 rfl)<|.p (ls sc4 rfl)<|?_
 refine TR.st 17 (.bool (((x12).neg) == ((x13).neg))) [] (snd_bool_eql _ _ _ _ _ _ rfl underlying4 rfl rfl rfl rfl) rfl rfl rfl ?_
 refine .nil<|.seq<|?_
 refine T.cond_p rfl iff_b (fun h3 h4=>?_) (fun h3 h4=>?_)
 ·refine .seq<|.draw mixed<|.p (fa 1 fl122_1 rfl)<|.p (ls sc4 rfl)<|.p (fa 0 fl122_0 rfl)<|.p (fa 0 fl120_0 rfl)<|.p (ls sc22 rfl)<|.p (fa 0 fl122_0 rfl)<|.p (fa 0 fl120_0 rfl)<|.p (ls sc22 rfl)<|.bind fun x14 h5=>.p (c0 (nat_Add_p h5) rfl)<|.bind fun x15 h6=>.p (c0 (zint_Make_p h6) rfl)<|?_
  refine .n (sa ag24 rfl)<|.nil (by kernel_rfl)<|.seq<|.ret<|.seq_ret<|fin_1 (.inr rfl) (.nil _) results126 (.a ag24 rfl) (AVle.refl _)
 ·refine .skip<|.seq<|.seq<|.seq<|.region<|.p (fa 0 fl122_0 rfl)<|.p (fa 0 fl120_0 rfl)<|.p (ls sc22 rfl)<|.p (fa 0 fl122_0 rfl)<|.p (fa 0 fl120_0 rfl)<|.p (ls sc22 rfl)<|.bind fun x16 h7=>.p (c0 (nat_Cmp_p h7) rfl)<|.p (ar rfl)<|?_
  refine .nil<|.seq<|?_
  refine T.cut (X:=(List Int) × Bool × (List Int) × Bool) (fun x=>zint_Add_j1 x.1 x.2.1 x.2.2.1 x.2.2.2) (fun x=>(mkS [(4,some (.ptr 2 0)),(5,some (.ptr 3 0)),(6,some (.ptr 4 0))] [(2,(.live 24 [(.bool false),(slK (kInt .u32) [])])),(3,(.live 122 [(slK (kInt .u32) x.1),(.bool x.2.1)])),(4,(.live 122 [(slK (kInt .u32) x.2.2.1),(.bool x.2.2.2)]))])) ?_ ?_
  ·rintro ⟨y17,y18,y19,y20⟩
   dsimp only [zint_Add_j1]
   refine .seq<|.seq<|.region<|.p (fa 0 fl122_0 rfl)<|.p (fa 0 fl120_0 rfl)<|.p (ls sc22 rfl)<|.p (fa 0 fl122_0 rfl)<|.p (fa 0 fl120_0 rfl)<|.p (ls sc22 rfl)<|.bind fun x21 h10=>.p (c0 (nat_Sub_p h10) rfl)<|.p (mv rfl)<|.p (xt rfl)<|.p (xt rfl)<|?_
   refine .p (sg rfl)<|.p (sg rfl)<|.nil<|.seq<|.seq<|.region<|.p (fa 1 fl122_1 rfl)<|.p (ls sc4 rfl)<|.p (mv rfl)<|.bind fun x22 h11=>.p (c0 (zint_Make_p h11) rfl)<|.n (sa ag24 rfl)<|.nil<|.seq<|?_
   refine .ret<|fin_1 (.inr rfl) (.nil _) results126 (.a ag24 rfl) (AVle.refl _)
  ·intro h12
   refine T.cond_p rfl iff_dec (fun h13 h14=>?_) (fun h13 h14=>?_)
   ·refine .region<|.p (la ag122 rfl)<|.p (la ag122 rfl)<|.n (sa ag122 rfl)<|.n (sa ag122 rfl)<|.nil<|.weak (h12 (((x13).size).mag,(x13).neg,((x12).size).mag,(x12).neg)) (jn (m:=0) [(2,2),(3,3),(4,4)] hE (.p rfl rfl<|.p rfl rfl<|.p rfl rfl<|.nil) (.v rfl (.b<|.l<|.nil)<|.v rfl (.l<|.b<|.nil)<|.v rfl (.l<|.b<|.nil)<|.nil) rfl)
   ·refine .skip<|.weak (h12 (((x12).size).mag,(x12).neg,((x13).size).mag,(x13).neg)) (jn (m:=0) [(2,2),(3,3),(4,4)] hE (.p rfl rfl<|.p rfl rfl<|.p rfl rfl<|.nil) (.v rfl (.b<|.l<|.nil)<|.v rfl (.l<|.b<|.nil)<|.v rfl (.l<|.b<|.nil)<|.nil) rfl)
theorem zint_Add_p {a0:ApiInt} {a1:ApiInt} {r:ApiInt} (h:zint_Add a0 a1=some r):Pur Tryz.prog 126 [(.agg (kN.enc a0)),(.agg (kN.enc a1))] (.agg (kN.enc (r))):=⟨⟨_,func126,nm126,rfl⟩,zint_Add_c a0 a1 _ h,fun _=>(.a kN<|.a kN<|.nil),fun _=>(ren_agg (K:=kN) _)⟩
theorem dyad_sum_c (a0:AD) (a1:AD):∀ r,dyad_sum a0 a1=some r→ACalls Tryz.prog 77 [(.agg (kD.enc a0)),(.agg (kD.enc a1))] (lw []) (.agg (kD.enc (⟨((r).M),(r).E⟩:AD))) (ld []):=by
 unfold dyad_sum
 refine go 0 func77 ntmps77 rfl ?_
 intro E hE
 refine .seq<|.region<|.w (bx 0 rfl)<|.w (bx 1 rfl)<|.w (al 2 ze26 rfl)<|.nil<|.seq<|.seq<|.block<|.seq<|.region<|.p (la ag26 rfl)<|.bind fun x28 h11=>.p (c0 (dyad_zero_p h11) rfl)<|?_
 refine .p (sg rfl)<|.nil<|.seq<|?_
 refine T.cond_p rfl iff_b (fun h12 h13=>?_) (fun h12 h13=>?_)
 ·refine .seq<|.region<|.p (la ag26 rfl)<|.n (sa ag26 rfl)<|.nil<|.seq<|.ret<|.block_ret<|.seq_ret<|fin_1 (.inr rfl) (.nil _) results77 (.a ag26 rfl) (AVle.refl _)
 ·refine .seq<|.region<|.p (la ag26 rfl)<|.bind fun x29 h14=>.p (c0 (dyad_zero_p h14) rfl)<|.p (sg rfl)<|.nil<|.seq<|?_
  refine T.cond_p rfl iff_b (fun h15 h16=>?_) (fun h15 h16=>?_)
  ·refine .seq<|.region<|.p (la ag26 rfl)<|.n (sa ag26 rfl)<|.nil<|.seq<|.ret<|.block_ret<|.seq_ret<|fin_1 (.inr rfl) (.nil _) results77 (.a ag26 rfl) (AVle.refl _)
  ·refine .seq<|.region<|.p (fa 2 fl26_1 rfl)<|.p (ls sc3 rfl)<|.p (fa 2 fl26_1 rfl)<|.p (ls sc3 rfl)<|.p (ar rfl)<|.p (sg rfl)<|.nil<|.seq<|?_
   refine T.cut (X:=Bool × (List Int) × Int × Bool × (List Int) × Int) (fun x=>dyad_sum_j1 x.1 x.2.1 x.2.2.1 x.2.2.2.1 x.2.2.2.2.1 x.2.2.2.2.2) (fun x=>(mkS [(2,some (.ptr 0 0)),(3,some (.ptr 1 0)),(4,some (.ptr 2 0))] [(0,(.live 26 [(.bool x.1),(slK (kInt .u32) x.2.1),(.int .i64 x.2.2.1)])),(1,(.live 26 [(.bool x.2.2.2.1),(slK (kInt .u32) x.2.2.2.2.1),(.int .i64 x.2.2.2.2.2)])),(2,(.live 26 [(.bool false),(slK (kInt .u32) []),(.int .i64 0)]))])) ?_ ?_
   ·rintro ⟨y30,y31,y32,y33,y34,y35⟩
    dsimp only [dyad_sum_j1]
    refine .block<|.seq<|.seq<|.draw mixed<|.p (fa 0 fl26_0 rfl)<|.p (fa 0 fl24_0 rfl)<|.p (ls sc4 rfl)<|.p (fa 0 fl26_0 rfl)<|.p (fa 1 fl24_1 rfl)<|.p (ls sc22 rfl)<|.p (fa 2 fl26_1 rfl)<|.p (ls sc3 rfl)<|.p (fa 2 fl26_1 rfl)<|.p (ls sc3 rfl)<|?_
    refine .p (ar rfl)<|.bind fun x36 h19=>.p (c0 (dyad_up_p h19) rfl)<|.p (bd ze24 pl24 rfl)<|.p (fa 0 fl26_0 rfl)<|.p (la ag24 rfl)<|.bind fun x37 h20=>.p (c0 (zint_Add_p h20) rfl)<|.w (al 3 ze24 rfl)<|.n (sa ag24 rfl)<|.nil (by kernel_rfl)<|.seq<|.seq<|.region<|?_
    refine .p (fa 0 fl24_0 rfl)<|.p (ls sc4 rfl)<|.p (fa 1 fl24_1 rfl)<|.p (ls sc22 rfl)<|.p (fa 2 fl26_1 rfl)<|.p (ls sc3 rfl)<|.bind fun x38 h21=>.p (c0 (dyad_norm_p h21) rfl)<|.n (sa ag26 rfl)<|.nil<|.seq<|.ret<|fin_1 (.inr rfl) (.nil _) results77 (.a ag26 rfl) (AVle.refl _)
   ·intro h22
    refine T.cond_p rfl iff_dec (fun h23 h24=>?_) (fun h23 h24=>?_)
    ·refine .region<|.p (la ag26 rfl)<|.p (la ag26 rfl)<|.n (sa ag26 rfl)<|.n (sa ag26 rfl)<|.nil<|.weak (h22 (a1.M.Neg,a1.M.Mag,a1.E,a0.M.Neg,a0.M.Mag,a0.E)) (jn (m:=0) [(0,0),(1,1),(2,2)] hE (.p rfl rfl<|.p rfl rfl<|.p rfl rfl<|.nil) (.v rfl (.b<|.l<|.i<|.nil)<|.v rfl (.b<|.l<|.i<|.nil)<|.v rfl (.b<|.l<|.i<|.nil)<|.nil) rfl)
    ·refine .skip<|.weak (h22 (a0.M.Neg,a0.M.Mag,a0.E,a1.M.Neg,a1.M.Mag,a1.E)) (jn (m:=0) [(0,0),(1,1),(2,2)] hE (.p rfl rfl<|.p rfl rfl<|.p rfl rfl<|.nil) (.v rfl (.b<|.l<|.i<|.nil)<|.v rfl (.b<|.l<|.i<|.nil)<|.v rfl (.b<|.l<|.i<|.nil)<|.nil) rfl)
theorem dyad_sum_p {a0:AD} {a1:AD} {r:AD} (h:dyad_sum a0 a1=some r):Pur Tryz.prog 77 [(.agg (kD.enc a0)),(.agg (kD.enc a1))] (.agg (kD.enc (⟨((r).M),(r).E⟩:AD))):=⟨⟨_,func77,nm77,rfl⟩,dyad_sum_c a0 a1 _ h,fun _=>(.a kD<|.a kD<|.nil),fun _=>(ren_agg (K:=kD) _)⟩
theorem dyad_Cmp_c (a0:AD) (a1:AD):∀ r,dyad_Cmp a0 a1=some r→ACalls Tryz.prog 37 [(.agg (kD.enc a0)),(.agg (kD.enc a1))] (lw []) (.int .i64 r) (ld []):=by
 unfold dyad_Cmp
 refine go 0 func37 ntmps37 rfl ?_
 intro E hE
 refine .seq<|.region<|.w (bx 0 rfl)<|.w (bx 1 rfl)<|.p (sg rfl)<|.nil<|.seq<|.seq<|.seq<|?_
 refine T.cut (X:=Bool) (fun x=>dyad_Cmp_j1 a0 a1 x) (fun x=>(mkS [(2,some (.ptr 0 0)),(3,some (.ptr 1 0)),(14,some (.bool x))] [(0,(.live 26 [(.bool a0.M.Neg),(slK (kInt .u32) a0.M.Mag),(.int .i64 a0.E)])),(1,(.live 26 [(.bool a1.M.Neg),(slK (kInt .u32) a1.M.Mag),(.int .i64 a1.E)]))])) ?_ ?_
 ·rintro y19
  dsimp only [dyad_Cmp_j1]
  refine .seq<|?_
  refine T.cond_p rfl iff_b (fun h4 h5=>?_) (fun h4 h5=>?_)
  ·refine .seq<|.region<|.p (sg rfl)<|.nil<|.seq<|.ret<|.seq_ret<|fin_1 (.inr rfl) (.nil _) results37 (.t rfl) (AVle.refl _)
  ·refine .skip<|.seq<|.seq<|.seq<|?_
   refine T.cut (X:=Bool) (fun x=>dyad_Cmp_j2 a0 a1 x) (fun x=>(mkS [(2,some (.ptr 0 0)),(3,some (.ptr 1 0)),(29,some (.bool x))] [(0,(.live 26 [(.bool a0.M.Neg),(slK (kInt .u32) a0.M.Mag),(.int .i64 a0.E)])),(1,(.live 26 [(.bool a1.M.Neg),(slK (kInt .u32) a1.M.Mag),(.int .i64 a1.E)]))])) ?_ ?_
   ·rintro y22
    dsimp only [dyad_Cmp_j2]
    refine .seq<|?_
    refine T.cond_p rfl iff_b (fun h10 h11=>?_) (fun h10 h11=>?_)
    ·refine .seq<|.region<|.p (fa 0 fl26_0 rfl)<|.p (la ag24 rfl)<|.p (fa 0 fl26_0 rfl)<|.p (la ag24 rfl)<|.bind fun x23 h12=>.p (c0 (zint_Cmp_p h12) rfl)<|.p (sg rfl)<|.nil<|.seq<|.ret<|.seq_ret<|fin_1 (.inr rfl) (.nil _) results37 (.t rfl) (AVle.refl _)
    ·refine .skip<|.seq<|.seq<|.seq<|.draw mixed<|.p (la ag26 rfl)<|.bind fun x24 h13=>.p (c0 (dyad_size_p h13) rfl)<|.p (la ag26 rfl)<|.bind fun x25 h14=>.p (c0 (dyad_size_p h14) rfl)<|.p (sg rfl)<|.p (sg rfl)<|.nil (by kernel_rfl)<|?_
     refine .seq<|.seq<|.region<|.p (mv rfl)<|.p (mv rfl)<|.p (ar rfl)<|.nil<|.seq<|?_
     refine T.cond_p rfl iff_ne (fun h15 h16=>?_) (fun h15 h16=>?_)
     ·refine .seq<|.seq<|.region<|.p (mv rfl)<|.p (mv rfl)<|.p (ar rfl)<|.p (fa 0 fl26_0 rfl)<|.p (fa 0 fl24_0 rfl)<|.p (ls sc4 rfl)<|?_
      refine TR.st 48 (.bool ((decide (x24<x25)) != a0.M.Neg)) [] (snd_bool_neq _ _ _ _ _ _ rfl underlying4 rfl rfl rfl rfl) rfl rfl rfl ?_
      refine .nil<|.seq<|?_
      refine T.cond_p rfl iff_b (fun h17 h18=>?_) (fun h17 h18=>?_)
      ·refine .seq<|.region<|.p (sg rfl)<|.nil<|.seq<|.ret<|.seq_ret<|.seq_ret<|fin_1 (.inr rfl) (.nil _) results37 (.t rfl) (AVle.refl _)
      ·refine .skip<|.seq<|.seq<|.region<|.p (sg rfl)<|.nil<|.seq<|.ret<|.seq_ret<|fin_1 (.inr rfl) (.nil _) results37 (.t rfl) (AVle.refl _)
     ·refine .skip<|.seq<|.seq<|.draw mixed<|.p (la ag26 rfl)<|.p (la ag26 rfl)<|.bind fun x26 h19=>.p (c0 (dyad_Neg_p h19) rfl)<|.bind fun x27 h20=>.p (c0 (dyad_sum_p h20) rfl)<|?_
      refine TD.st 53 (.agg (kN.enc ((x27).M))) [] (snd_field_agg _ _ _ _ _ _ _ _ _ rfl underlying26 rfl rfl rfl ag24 rfl rfl rfl (Nat.le_of_ble_eq_true rfl)) rfl rfl rfl ?_
      refine .p (bd ze24 pl24 rfl)<|.bind fun x28 h21=>.p (c0 (zint_Cmp_p h21) rfl)<|.p (sg rfl)<|.nil (by kernel_rfl)<|.seq<|.ret<|fin_1 (.inr rfl) (.nil _) results37 (.t rfl) (AVle.refl _)
   ·intro h22
    refine .region<|.p (fa 0 fl26_0 rfl)<|.p (fa 0 fl24_0 rfl)<|.p (ls sc4 rfl)<|.p (fa 0 fl26_0 rfl)<|.p (fa 0 fl24_0 rfl)<|.p (ls sc4 rfl)<|?_
    refine TR.st 21 (.bool (a0.M.Neg != a1.M.Neg)) [] (snd_bool_neq _ _ _ _ _ _ rfl underlying4 rfl rfl rfl rfl) rfl rfl rfl ?_
    refine .p (mv rfl)<|?_
    refine TR.gd 22 _ rfl iff_b (fun h23=>?_) (fun h23=>?_)
    ·refine .k rfl<|.k rfl<|.p (pt rfl)<|.p (mv rfl)<|.k rfl<|.k rfl<|.p (pt rfl)<|.nil<|.weak (h22 true) (jn (m:=0) [(0,0),(1,1)] hE (.p rfl rfl<|.p rfl rfl<|.b rfl<|.nil) (.v rfl (.b<|.l<|.i<|.nil)<|.v rfl (.b<|.l<|.i<|.nil)<|.nil) rfl)
    ·refine .p (la ag26 rfl)<|.bind fun x29 h24=>.p (c0 (dyad_zero_p h24) rfl)<|.p (pf rfl)<|.p (mv rfl)<|?_
     refine TR.gd 26 _ rfl iff_b (fun h25=>?_) (fun h25=>?_)
     ·refine .k rfl<|.k rfl<|.p (pt rfl)<|.nil<|.weak (h22 true) (jn (m:=0) [(0,0),(1,1)] hE (.p rfl rfl<|.p rfl rfl<|.b rfl<|.nil) (.v rfl (.b<|.l<|.i<|.nil)<|.v rfl (.b<|.l<|.i<|.nil)<|.nil) rfl)
     ·refine .p (la ag26 rfl)<|.bind fun x30 h26=>.p (c0 (dyad_zero_p h26) rfl)<|.p (pf rfl)<|.nil<|.weak (h22 x30) (jn (m:=0) [(0,0),(1,1)] hE (.p rfl rfl<|.p rfl rfl<|.b rfl<|.nil) (.v rfl (.b<|.l<|.i<|.nil)<|.v rfl (.b<|.l<|.i<|.nil)<|.nil) rfl)
 ·intro h27
  refine .region<|.p (la ag26 rfl)<|.bind fun x31 h28=>.p (c0 (dyad_Right_p h28) rfl)<|.p (un rfl)<|.p (mv rfl)<|?_
  refine TR.gd 10 _ rfl iff_nb (fun h29=>?_) (fun h29=>?_)
  ·refine .k rfl<|.k rfl<|.k rfl<|.p (pt rfl)<|.nil<|.weak (h27 true) (jn (m:=0) [(0,0),(1,1)] hE (.p rfl rfl<|.p rfl rfl<|.b rfl<|.nil) (.v rfl (.b<|.l<|.i<|.nil)<|.v rfl (.b<|.l<|.i<|.nil)<|.nil) rfl)
  ·refine .p (la ag26 rfl)<|.bind fun x32 h30=>.p (c0 (dyad_Right_p h30) rfl)<|.p (un rfl)<|.p (pf rfl)<|.nil<|.weak (h27 (!x32)) (jn (m:=0) [(0,0),(1,1)] hE (.p rfl rfl<|.p rfl rfl<|.b rfl<|.nil) (.v rfl (.b<|.l<|.i<|.nil)<|.v rfl (.b<|.l<|.i<|.nil)<|.nil) rfl)
theorem dyad_Cmp_p {a0:AD} {a1:AD} {r:Int} (h:dyad_Cmp a0 a1=some r):Pur Tryz.prog 37 [(.agg (kD.enc a0)),(.agg (kD.enc a1))] (.int .i64 r):=⟨⟨_,func37,nm37,rfl⟩,dyad_Cmp_c a0 a1 _ h,fun _=>(.a kD<|.a kD<|.nil),fun _=>(.int _ _)⟩
theorem iv_Right_c (a0:AI):∀ r,iv_Right a0=some r→ACalls Tryz.prog 82 [(.agg (kI.enc a0))] (lw []) (.bool r) (ld []):=by
 unfold iv_Right
 refine go 0 func82 ntmps82 rfl ?_
 intro E hE
 refine .seq<|.region<|.w (bx 0 rfl)<|.p (sg rfl)<|.nil<|.seq<|.seq<|?_
 refine T.cut (X:=Bool) (fun x=>iv_Right_j1 x) (fun x=>(mkS [(2,some (.bool x))] [])) ?_ ?_
 ·rintro y11
  dsimp only [iv_Right_j1]
  refine .seq<|.ret<|fin_1 (.inr rfl) (.nil _) results82 (.t rfl) (AVle.refl _)
 ·intro h6
  refine .region<|.p (fa 0 fl34_0 rfl)<|.p (la ag26 rfl)<|.bind fun x12 h7=>.p (c0 (dyad_Right_p h7) rfl)<|.p (mv rfl)<|?_
  refine TR.gd 6 _ rfl iff_b (fun h8=>?_) (fun h8=>?_)
  ·refine .p (fa 3 fl34_1 rfl)<|.p (la ag26 rfl)<|.bind fun x13 h9=>.p (c0 (dyad_Right_p h9) rfl)<|.p (pt rfl)<|.p (mv rfl)<|?_
   refine TR.gd 11 _ rfl iff_b (fun h10=>?_) (fun h10=>?_)
   ·refine .p (fa 0 fl34_0 rfl)<|.p (la ag26 rfl)<|.p (fa 3 fl34_1 rfl)<|.p (la ag26 rfl)<|.bind fun x14 h11=>.p (c0 (dyad_Cmp_p h11) rfl)<|.p (ar rfl)<|.p (pt rfl)<|.p (sg rfl)<|.nil<|.weak (h6 (decide (x14≤0))) (jn (m:=0) [] hE (.b rfl<|.nil) .nil rfl)
   ·refine .k rfl<|.k rfl<|.k rfl<|.k rfl<|.k rfl<|.k rfl<|.p (pf rfl)<|.p (sg rfl)<|.nil<|.weak (h6 false) (jn (m:=0) [] hE (.b rfl<|.nil) .nil rfl)
  ·refine .k rfl<|.k rfl<|.k rfl<|.p (pf rfl)<|.p (mv rfl)<|.k rfl<|.k rfl<|.k rfl<|.k rfl<|.k rfl<|.k rfl<|.p (pf rfl)<|.p (sg rfl)<|.nil<|.weak (h6 false) (jn (m:=0) [] hE (.b rfl<|.nil) .nil rfl)
theorem iv_Right_p {a0:AI} {r:Bool} (h:iv_Right a0=some r):Pur Tryz.prog 82 [(.agg (kI.enc a0))] (.bool r):=⟨⟨_,func82,nm82,rfl⟩,iv_Right_c a0 _ h,fun _=>(.a kI<|.nil),fun _=>(.bool _)⟩
theorem iv_trouble_note_c (a0:Int) (a1:Int) (a2:Int):∀ r,iv_trouble_note a0 a1 a2=some r→ACalls Tryz.prog 94 [(.ptr 0 0),(.int .i64 a0)] (lw [(.live 45 [(.int .i64 a1),(.int .i64 a2)])]) (.bool r.1) (ld [(.live 45 [(.int .i64 r.2),(.int .i64 a2)])]):=by
 unfold iv_trouble_note
 refine go 1 func94 ntmps94 rfl ?_
 intro E hE
 refine .seq<|.region<|.p (sg rfl)<|.nil<|.seq<|.seq<|.seq<|.region<|.p (mv rfl)<|.p (nc rfl)<|.p (fa 0 fl43_0 rfl)<|.p (ls sc29 rfl)<|.p (ar rfl)<|.nil<|?_
 refine .seq<|?_
 refine T.cut (X:=Int) (fun x=>iv_trouble_note_j1 x) (fun x=>(mkS [(0,some (.ptr 0 0))] [(0,(.live 45 [(.int .i64 x),(.int .i64 a2)]))])) ?_ ?_
 ·rintro y2
  dsimp only [iv_trouble_note_j1]
  refine .seq<|.seq<|.region<|.p (mv rfl)<|.p (nc rfl)<|.p (fa 0 fl43_0 rfl)<|.p (ls sc29 rfl)<|.p (ar rfl)<|.p (sg rfl)<|.nil<|.seq<|.ret<|fin_1 (.inr rfl) (.k rfl (.nil _)) results94 (.t rfl) (AVle.refl _)
 ·intro h3
  refine T.cond_p rfl iff_eq (fun h4 h5=>?_) (fun h4 h5=>?_)
  ·refine .region<|.p (mv rfl)<|.p (mv rfl)<|.p (nc rfl)<|.p (fa 0 fl43_0 rfl)<|.n (ss sc29 rfl)<|.nil<|.weak (h3 a0) (jn (m:=1) [(0,0)] hE (.p rfl rfl<|.nil) (.v rfl (.i<|.i<|.nil)<|.nil) rfl)
  ·refine .skip<|.weak (h3 a1) (jn (m:=1) [(0,0)] hE (.p rfl rfl<|.nil) (.v rfl (.i<|.i<|.nil)<|.nil) rfl)
theorem iv_trouble_note_k {a0:Int} {a1:Int} {a2:Int} {r:Bool × Int} (h:iv_trouble_note a0 a1 a2=some r):Cal Tryz.prog 94 [(.ptr 0 0),(.int .i64 a0)] [(.live 45 [(.int .i64 a1),(.int .i64 a2)])] (.bool r.1) [(.live 45 [(.int .i64 r.2),(.int .i64 a2)])]:=⟨⟨_,func94,nm94,rfl⟩,iv_trouble_note_c a0 a1 a2 _ h⟩
theorem cv_fine_c (a0:List AI) (a1:Int) (a2:Int):∀ r,cv_fine a0 a1 a2=some r→ACalls Tryz.prog 84 [(.ptr 0 0),(slK kI a0)] (lw [(.live 45 [(.int .i64 a1),(.int .i64 a2)])]) (.bool r.1) (ld [(.live 45 [(.int .i64 r.2),(.int .i64 a2)])]):=by
 unfold cv_fine
 refine go 1 func84 ntmps84 rfl ?_
 intro E hE
 refine .seq<|.region<|.p (sg rfl)<|.nil<|.seq<|.seq<|.seq<|.region<|.p (mv rfl)<|.p (ln underlying104 rfl)<|.p (mv rfl)<|.nil<|.seq<|?_
 refine T.cut (X:=Int) (fun x=>cv_fine_j1 x) (fun x=>(mkS [(0,some (.ptr 0 0))] [(0,(.live 45 [(.int .i64 x),(.int .i64 a2)]))])) ?_ ?_
 ·rintro y122
  dsimp only [cv_fine_j1]
  refine .seq<|.seq<|.region<|.p (mv rfl)<|.p (nc rfl)<|.p (fa 0 fl45_0 rfl)<|.p (fa 0 fl43_0 rfl)<|.p (ls sc29 rfl)<|.p (ar rfl)<|.p (sg rfl)<|.nil<|.seq<|.ret<|fin_1 (.inr rfl) (.k rfl (.nil _)) results84 (.t rfl) (AVle.refl _)
 ·intro h61
  refine .block<|.loopW (X:=Int × Int) (fun n x=>cv_fine_l2 a0 a2 n x.1 x.2) (fun x=>(mkS [(0,some (.ptr 0 0)),(7,some (slK kI a0)),(8,some (.int .i64 (a0.length:Int))),(9,some (.int .i64 x.1))] [(0,(.live 45 [(.int .i64 x.2),(.int .i64 a2)]))])) (0,a1) (jn (m:=1) [(0,0)] hE (.p rfl rfl<|.l rfl<|.i rfl<|.i rfl<|.nil) (.v rfl (.i<|.i<|.nil)<|.nil) rfl) (fun _=>rfl) rfl<|?_
  rintro n2 ⟨y149,y150⟩
  try dsimp only
  rw [cv_fine_l2]
  refine .seq<|.region<|.p (ar rfl)<|.nil<|.seq<|.seq<|?_
  refine T.cond_p rfl iff_dec (fun h102 h103=>?_) (fun h102 h103=>?_)
  ·refine .skip<|.seq<|.seq<|.block<|.seq<|.region<|.guard fun h113=>?_
   refine TR.st 11 (.iptr [(.bool ((((a0.getD y149.toNat zAI).Lo).M).Neg)),(slK (kInt .u32) ((((a0.getD y149.toNat zAI).Lo).M).Mag)),(.int .i64 (((a0.getD y149.toNat zAI).Lo).E)),(.bool ((((a0.getD y149.toNat zAI).Hi).M).Neg)),(slK (kInt .u32) ((((a0.getD y149.toNat zAI).Hi).M).Mag)),(.int .i64 (((a0.getD y149.toNat zAI).Hi).E))]) [] (snd_indexK kI _ _ _ _ _ _ y149 rfl underlying104 si34 rfl rfl rfl rfl h113) rfl rfl rfl ?_
   refine .p (lai ag34 rfl)<|.w (al 1 ze34 rfl)<|.n (sa ag34 rfl)<|.nil<|.seq<|.seq<|?_
   refine T.cut (X:=Bool × Int) (fun x=>cv_fine_j3 (fun z0 z1=>cv_fine_l2 a0 a2 n2 z0 z1) y149 x.1 x.2) (fun x=>(mkS [(0,some (.ptr 0 0)),(7,some (slK kI a0)),(8,some (.int .i64 (a0.length:Int))),(9,some (.int .i64 y149)),(22,some (.bool x.1))] [(0,(.live 45 [(.int .i64 x.2),(.int .i64 a2)]))])) ?_ ?_
   ·rintro ⟨y159,y160⟩
    dsimp only [cv_fine_j3]
    refine .seq<|?_
    refine T.cond_p rfl iff_b (fun h117 h118=>?_) (fun h117 h118=>?_)
    ·refine .exit<|.block_pass (by decide)<|.seq_exit<|.loop_exit<|.block_exit<|.weak (h61 y160) (jn (m:=1) [(0,0)] hE (.p rfl rfl<|.nil) (.v rfl (.i<|.i<|.nil)<|.nil) rfl)
    ·refine .skip<|.block<|.seq<|.region<|.p (ar rfl)<|.p (mv rfl)<|.nil<|.again ((IntKind.i64.wrap (y149+1)),y160) (jn (m:=1) [(0,0)] hE (.p rfl rfl<|.l rfl<|.i rfl<|.i rfl<|.nil) (.v rfl (.i<|.i<|.nil)<|.nil) rfl) rfl
   ·intro h119
    refine .region<|.p (la ag34 rfl)<|.bind fun x161 h120=>.p (c0 (iv_Right_p h120) rfl)<|.p (un rfl)<|.p (mv rfl)<|?_
    refine TR.gd 16 _ rfl iff_nb (fun h121=>?_) (fun h121=>?_)
    ·refine .p (mv rfl)<|.p (nc rfl)<|.p (fa 0 fl45_0 rfl)<|.bind fun x162 h122=>.w (cl (iv_trouble_note_k h122) [0] [] [true] rfl (.p rfl<|.i<|.nil) (.p rfl (.i<|.i<|.nil) .nil) fnil (.cons (.v (.i<|.i<|.nil)) .nil) (.bool _) (.turned .nil) rfl)<|.p (un rfl)<|.p (pt rfl)<|.nil<|.weak (h119 ((!x162.1),x162.2)) (jn (m:=1) [(0,0)] hE (.p rfl rfl<|.l rfl<|.i rfl<|.i rfl<|.b rfl<|.nil) (.v rfl (.i<|.i<|.nil)<|.nil) rfl)
    ·refine .k rfl<|.k rfl<|.k rfl<|.k rfl<|.k rfl<|.p (pf rfl)<|.nil<|.weak (h119 (false,y150)) (jn (m:=1) [(0,0)] hE (.p rfl rfl<|.l rfl<|.i rfl<|.i rfl<|.b rfl<|.nil) (.v rfl (.i<|.i<|.nil)<|.nil) rfl)
  ·refine .exit<|.seq_exit<|.loop_exit<|.block_exit<|.weak (h61 y150) (jn (m:=1) [(0,0)] hE (.p rfl rfl<|.nil) (.v rfl (.i<|.i<|.nil)<|.nil) rfl)
theorem cv_fine_k {a0:List AI} {a1:Int} {a2:Int} {r:Bool × Int} (h:cv_fine a0 a1 a2=some r):Cal Tryz.prog 84 [(.ptr 0 0),(slK kI a0)] [(.live 45 [(.int .i64 a1),(.int .i64 a2)])] (.bool r.1) [(.live 45 [(.int .i64 r.2),(.int .i64 a2)])]:=⟨⟨_,func84,nm84,rfl⟩,cv_fine_c a0 a1 a2 _ h⟩
theorem cv_Point_c (a0:AD) (a1:Int) (a2:Int):∀ r,cv_Point a0 a1 a2=some r→ACalls Tryz.prog 30 [(.ptr 0 0),(.agg (kD.enc a0))] (lw [(.live 45 [(.int .i64 a1),(.int .i64 a2)])]) (.agg (kI.enc (⟨⟨(((r.1).Lo).M),((r.1).Lo).E⟩,⟨(((r.1).Hi).M),((r.1).Hi).E⟩⟩:AI))) (ld [(.live 45 [(.int .i64 r.2),(.int .i64 a2)])]):=by
 unfold cv_Point
 refine go 1 func30 ntmps30 rfl ?_
 intro E hE
 refine .seq<|.region<|.w (bx 1 rfl)<|.w (al 2 ze34 rfl)<|.nil<|.seq<|.seq<|.region<|.p (la ag26 rfl)<|.p (la ag26 rfl)<|.p (bd ze34 pl34 rfl)<|.w (al 3 ze34 rfl)<|.n (sa ag34 rfl)<|.nil<|?_
 refine .seq<|.seq<|.seq<|.region<|.p (mv rfl)<|.p (la ag34 rfl)<|?_
 refine TR.st 11 (slK kI [(⟨a0,a0⟩:AI)]) [] (snd_buildSlice _ _ _ 6 _ _ [(0,(.agg (kI.enc (⟨a0,a0⟩:AI))))] (List.map kI.enc [(⟨a0,a0⟩:AI)]) rfl underlying104 ze34 si34 rfl rfl rfl (by decide) (by decide) (by decide) rfl rfl (Kd.even _) rfl) rfl rfl rfl ?_
 refine .bind fun x2 h1=>.w (cl (cv_fine_k h1) [0] [] [true] rfl (.p rfl<|.l<|.nil) (.p rfl (.i<|.i<|.nil) .nil) fnil (.cons (.v (.i<|.i<|.nil)) .nil) (.bool _) (.turned .nil) rfl)<|.p (un rfl)<|.nil<|.seq<|?_
 refine T.cond_p rfl iff_nb (fun h2 h3=>?_) (fun h2 h3=>?_)
 ·refine .seq<|.region<|.p (bd ze34 pl34 rfl)<|.n (sa ag34 rfl)<|.nil<|.seq<|.ret<|.seq_ret<|fin_1 (.inr rfl) (.k rfl (.nil _)) results30 (.a ag34 rfl) (AVle.refl _)
 ·refine .skip<|.seq<|.seq<|.region<|.p (la ag34 rfl)<|.n (sa ag34 rfl)<|.nil<|.seq<|.ret<|fin_1 (.inr rfl) (.k rfl (.nil _)) results30 (.a ag34 rfl) (AVle.refl _)
theorem cv_Point_k {a0:AD} {a1:Int} {a2:Int} {r:AI × Int} (h:cv_Point a0 a1 a2=some r):Cal Tryz.prog 30 [(.ptr 0 0),(.agg (kD.enc a0))] [(.live 45 [(.int .i64 a1),(.int .i64 a2)])] (.agg (kI.enc (⟨⟨(((r.1).Lo).M),((r.1).Lo).E⟩,⟨(((r.1).Hi).M),((r.1).Hi).E⟩⟩:AI))) [(.live 45 [(.int .i64 r.2),(.int .i64 a2)])]:=⟨⟨_,func30,nm30,rfl⟩,cv_Point_c a0 a1 a2 _ h⟩
theorem cv_Int_c (a0:Int) (a1:Int) (a2:Int):∀ r,cv_Int a0 a1 a2=some r→ACalls Tryz.prog 38 [(.ptr 0 0),(.int .i64 a0)] (lw [(.live 45 [(.int .i64 a1),(.int .i64 a2)])]) (.agg (kI.enc (⟨⟨(((r.1).Lo).M),((r.1).Lo).E⟩,⟨(((r.1).Hi).M),((r.1).Hi).E⟩⟩:AI))) (ld [(.live 45 [(.int .i64 r.2),(.int .i64 a2)])]):=by
 unfold cv_Int
 refine go 1 func38 ntmps38 rfl ?_
 intro E hE
 refine .seq<|.region<|.w (al 1 ze34 rfl)<|.nil<|.seq<|.seq<|.region<|.p (mv rfl)<|.p (mv rfl)<|.bind fun x3 h1=>.p (c0 (dyad_From_p h1) rfl)<|.bind fun x4 h2=>.w (cl (cv_Point_k h2) [0] [] [true] rfl (.p rfl<|.a kD<|.nil) (.p rfl (.i<|.i<|.nil) .nil) fnil (.cons (.v (.i<|.i<|.nil)) .nil) (ren_agg (K:=kI) _) (.turned .nil) rfl)<|.n (sa ag34 rfl)<|?_
 refine .nil<|.seq<|.ret<|fin_1 (.inr rfl) (.k rfl (.nil _)) results38 (.a ag34 rfl) (AVle.refl _)
theorem cv_Int_k {a0:Int} {a1:Int} {a2:Int} {r:AI × Int} (h:cv_Int a0 a1 a2=some r):Cal Tryz.prog 38 [(.ptr 0 0),(.int .i64 a0)] [(.live 45 [(.int .i64 a1),(.int .i64 a2)])] (.agg (kI.enc (⟨⟨(((r.1).Lo).M),((r.1).Lo).E⟩,⟨(((r.1).Hi).M),((r.1).Hi).E⟩⟩:AI))) [(.live 45 [(.int .i64 r.2),(.int .i64 a2)])]:=⟨⟨_,func38,nm38,rfl⟩,cv_Int_c a0 a1 a2 _ h⟩
theorem iv_Has_c (a0:AI) (a1:AD):∀ r,iv_Has a0 a1=some r→ACalls Tryz.prog 22 [(.agg (kI.enc a0)),(.agg (kD.enc a1))] (lw []) (.bool r) (ld []):=by
 unfold iv_Has
 refine go 0 func22 ntmps22 rfl ?_
 intro E hE
 refine .seq<|.region<|.w (bx 0 rfl)<|.w (bx 1 rfl)<|.p (sg rfl)<|.nil<|.seq<|.seq<|?_
 refine T.cut (X:=Bool) (fun x=>iv_Has_j1 x) (fun x=>(mkS [(4,some (.bool x))] [])) ?_ ?_
 ·rintro y14
  dsimp only [iv_Has_j1]
  refine .seq<|.ret<|fin_1 (.inr rfl) (.nil _) results22 (.t rfl) (AVle.refl _)
 ·intro h8
  refine .region<|.p (la ag34 rfl)<|.bind fun x15 h9=>.p (c0 (iv_Right_p h9) rfl)<|.p (mv rfl)<|?_
  refine TR.gd 7 _ rfl iff_b (fun h10=>?_) (fun h10=>?_)
  ·refine .p (la ag26 rfl)<|.bind fun x16 h11=>.p (c0 (dyad_Right_p h11) rfl)<|.p (pt rfl)<|.p (mv rfl)<|?_
   refine TR.gd 11 _ rfl iff_b (fun h12=>?_) (fun h12=>?_)
   ·refine .p (fa 0 fl34_0 rfl)<|.p (la ag26 rfl)<|.p (la ag26 rfl)<|.bind fun x17 h13=>.p (c0 (dyad_Cmp_p h13) rfl)<|.p (ar rfl)<|.p (pt rfl)<|.p (mv rfl)<|?_
    refine TR.gd 18 _ rfl iff_dec (fun h14=>?_) (fun h14=>?_)
    ·refine .p (la ag26 rfl)<|.p (fa 3 fl34_1 rfl)<|.p (la ag26 rfl)<|.bind fun x18 h15=>.p (c0 (dyad_Cmp_p h15) rfl)<|.p (ar rfl)<|.p (pt rfl)<|.p (sg rfl)<|.nil<|.weak (h8 (decide (x18≤0))) (jn (m:=0) [] hE (.b rfl<|.nil) .nil rfl)
    ·refine .k rfl<|.k rfl<|.k rfl<|.k rfl<|.k rfl<|.p (pf rfl)<|.p (sg rfl)<|.nil<|.weak (h8 false) (jn (m:=0) [] hE (.b rfl<|.nil) .nil rfl)
   ·refine .k rfl<|.k rfl<|.k rfl<|.k rfl<|.k rfl<|.p (pf rfl)<|.p (mv rfl)<|.k rfl<|.k rfl<|.k rfl<|.k rfl<|.k rfl<|.p (pf rfl)<|.p (sg rfl)<|?_
    refine .nil<|.weak (h8 false) (jn (m:=0) [] hE (.b rfl<|.nil) .nil rfl)
  ·refine .k rfl<|.k rfl<|.p (pf rfl)<|.p (mv rfl)<|.k rfl<|.k rfl<|.k rfl<|.k rfl<|.k rfl<|.p (pf rfl)<|.p (mv rfl)<|.k rfl<|.k rfl<|.k rfl<|?_
   refine .k rfl<|.k rfl<|.p (pf rfl)<|.p (sg rfl)<|.nil<|.weak (h8 false) (jn (m:=0) [] hE (.b rfl<|.nil) .nil rfl)
theorem iv_Has_p {a0:AI} {a1:AD} {r:Bool} (h:iv_Has a0 a1=some r):Pur Tryz.prog 22 [(.agg (kI.enc a0)),(.agg (kD.enc a1))] (.bool r):=⟨⟨_,func22,nm22,rfl⟩,iv_Has_c a0 a1 _ h,fun _=>(.a kI<|.a kD<|.nil),fun _=>(.bool _)⟩
theorem cv_Div_1_c (a0:Bool) (a1:Int) (a2:Int):∀ r,cv_Div_1 a0 a1 a2=some r→ACalls Tryz.prog 95 [(.bool a0),(.ptr 0 0)] (lw [(.live 28 [(.ptr 1 0)]),(.live 45 [(.int .i64 a1),(.int .i64 a2)])]) (.fn 96 [] [(.ptr 0 0),(.ptr 2 0)]) (ld [(.live 28 [(.ptr 1 0)]),(.live 45 [(.int .i64 a1),(.int .i64 a2)]),(.live 4 [(.bool r)])]):=by
 unfold cv_Div_1
 refine go 2 func95 ntmps95 rfl ?_
 intro E hE
 refine .seq<|.region<|.w (bx 2 rfl)<|.p (sg rfl)<|.nil<|.seq<|.seq<|.region<|?_
 refine TR.st 4 (.fn 96 [] [(.ptr 0 0),(.ptr 2 0)]) [] (snd_makeFunc _ _ _ [] [(.ptr 0 0),(.ptr 2 0)] rfl rfl rfl rfl rfl) rfl rfl rfl ?_
 refine .p (sg rfl)<|.nil<|.seq<|.ret<|fin_1 (.inr rfl) (.k rfl (.k rfl (.k rfl (.nil _)))) results95 (.t rfl) (AVle.refl _)
theorem cv_Div_1_k {a0:Bool} {a1:Int} {a2:Int} {r:Bool} (h:cv_Div_1 a0 a1 a2=some r):Cal Tryz.prog 95 [(.bool a0),(.ptr 0 0)] [(.live 28 [(.ptr 1 0)]),(.live 45 [(.int .i64 a1),(.int .i64 a2)])] (.fn 96 [] [(.ptr 0 0),(.ptr 2 0)]) [(.live 28 [(.ptr 1 0)]),(.live 45 [(.int .i64 a1),(.int .i64 a2)]),(.live 4 [(.bool r)])]:=⟨⟨_,func95,nm95,rfl⟩,cv_Div_1_c a0 a1 a2 _ h⟩
theorem dyad_fault_must_c (a0:Bool) (a1:Int) (a2:Int) (a3:Bool) (a4:List Int) (a5:Int):∀ r,dyad_fault_must a0 a1 a2 a3 a4 a5=some r→ACalls Tryz.prog 134 [(.ptr 0 0),(.bool a0),(.int .i64 a1)] (lw [(.live 85 [(.int .i64 a2),(.bool a3),(slK (kInt .u32) a4),(.int .i64 a5)])]) (.bool r.1) (ld [(.live 85 [(.int .i64 r.2),(.bool a3),(slK (kInt .u32) a4),(.int .i64 a5)])]):=by
 unfold dyad_fault_must
 refine go 1 func134 ntmps134 rfl ?_
 intro E hE
 refine .seq<|.region<|.p (sg rfl)<|.nil<|.seq<|.seq<|.seq<|?_
 refine T.cut (X:=Bool) (fun x=>dyad_fault_must_j1 a1 a2 x) (fun x=>(mkS [(0,some (.ptr 0 0)),(2,some (.int .i64 a1)),(15,some (.bool x))] [(0,(.live 85 [(.int .i64 a2),(.bool a3),(slK (kInt .u32) a4),(.int .i64 a5)]))])) ?_ ?_
 ·rintro y3
  dsimp only [dyad_fault_must_j1]
  refine .seq<|?_
  refine T.cut (X:=Int) (fun x=>dyad_fault_must_j2 x) (fun x=>(mkS [(0,some (.ptr 0 0))] [(0,(.live 85 [(.int .i64 x),(.bool a3),(slK (kInt .u32) a4),(.int .i64 a5)]))])) ?_ ?_
  ·rintro y4
   dsimp only [dyad_fault_must_j2]
   refine .seq<|.seq<|.region<|.p (mv rfl)<|.p (nc rfl)<|.p (fa 0 fl83_0 rfl)<|.p (ls sc29 rfl)<|.p (ar rfl)<|.p (sg rfl)<|.nil<|.seq<|.ret<|fin_1 (.inr rfl) (.k rfl (.nil _)) results134 (.t rfl) (AVle.refl _)
  ·intro h4
   refine T.cond_p rfl iff_b (fun h5 h6=>?_) (fun h5 h6=>?_)
   ·refine .region<|.p (mv rfl)<|.p (mv rfl)<|.p (nc rfl)<|.p (fa 0 fl83_0 rfl)<|.n (ss sc29 rfl)<|.nil<|.weak (h4 a1) (jn (m:=1) [(0,0)] hE (.p rfl rfl<|.nil) (.v rfl (.i<|.b<|.l<|.i<|.nil)<|.nil) rfl)
   ·refine .skip<|.weak (h4 a2) (jn (m:=1) [(0,0)] hE (.p rfl rfl<|.nil) (.v rfl (.i<|.b<|.l<|.i<|.nil)<|.nil) rfl)
 ·intro h7
  refine .region<|.p (mv rfl)<|.p (un rfl)<|.p (mv rfl)<|?_
  refine TR.gd 9 _ rfl iff_nb (fun h8=>?_) (fun h8=>?_)
  ·refine .p (mv rfl)<|.p (nc rfl)<|.p (fa 0 fl83_0 rfl)<|.p (ls sc29 rfl)<|.p (ar rfl)<|.p (pt rfl)<|.nil<|.weak (h7 (a2 == 0)) (jn (m:=1) [(0,0)] hE (.p rfl rfl<|.i rfl<|.b rfl<|.nil) (.v rfl (.i<|.b<|.l<|.i<|.nil)<|.nil) rfl)
  ·refine .k rfl<|.k rfl<|.k rfl<|.k rfl<|.k rfl<|.p (pf rfl)<|.nil<|.weak (h7 false) (jn (m:=1) [(0,0)] hE (.p rfl rfl<|.i rfl<|.b rfl<|.nil) (.v rfl (.i<|.b<|.l<|.i<|.nil)<|.nil) rfl)
theorem dyad_fault_must_k {a0:Bool} {a1:Int} {a2:Int} {a3:Bool} {a4:List Int} {a5:Int} {r:Bool × Int} (h:dyad_fault_must a0 a1 a2 a3 a4 a5=some r):Cal Tryz.prog 134 [(.ptr 0 0),(.bool a0),(.int .i64 a1)] [(.live 85 [(.int .i64 a2),(.bool a3),(slK (kInt .u32) a4),(.int .i64 a5)])] (.bool r.1) [(.live 85 [(.int .i64 r.2),(.bool a3),(slK (kInt .u32) a4),(.int .i64 a5)])]:=⟨⟨_,func134,nm134,rfl⟩,dyad_fault_must_c a0 a1 a2 a3 a4 a5 _ h⟩
theorem dw_right_c (a0:List AD) (a1:Int) (a2:Bool) (a3:List Int) (a4:Int):∀ r,dw_right a0 a1 a2 a3 a4=some r→ACalls Tryz.prog 76 [(.ptr 0 0),(slK kD a0)] (lw [(.live 85 [(.int .i64 a1),(.bool a2),(slK (kInt .u32) a3),(.int .i64 a4)])]) (.bool r.1) (ld [(.live 85 [(.int .i64 r.2),(.bool a2),(slK (kInt .u32) a3),(.int .i64 a4)])]):=by
 unfold dw_right
 refine go 1 func76 ntmps76 rfl ?_
 intro E hE
 refine .seq<|.region<|.p (sg rfl)<|.nil<|.seq<|.seq<|.seq<|.region<|.p (mv rfl)<|.p (ln underlying96 rfl)<|.p (mv rfl)<|.nil<|.seq<|?_
 refine T.cut (X:=Int) (fun x=>dw_right_j1 x) (fun x=>(mkS [(0,some (.ptr 0 0))] [(0,(.live 85 [(.int .i64 x),(.bool a2),(slK (kInt .u32) a3),(.int .i64 a4)]))])) ?_ ?_
 ·rintro y50
  dsimp only [dw_right_j1]
  refine .seq<|.seq<|.region<|.p (mv rfl)<|.p (nc rfl)<|.p (fa 0 fl85_0 rfl)<|.p (fa 0 fl83_0 rfl)<|.p (ls sc29 rfl)<|.p (ar rfl)<|.p (sg rfl)<|.nil<|.seq<|.ret<|fin_1 (.inr rfl) (.k rfl (.nil _)) results76 (.t rfl) (AVle.refl _)
 ·intro h25
  refine .block<|.loopW (X:=Int × Int) (fun n x=>dw_right_l2 a0 a2 a3 a4 n x.1 x.2) (fun x=>(mkS [(0,some (.ptr 0 0)),(7,some (slK kD a0)),(8,some (.int .i64 (a0.length:Int))),(9,some (.int .i64 x.1))] [(0,(.live 85 [(.int .i64 x.2),(.bool a2),(slK (kInt .u32) a3),(.int .i64 a4)]))])) (0,a1) (jn (m:=1) [(0,0)] hE (.p rfl rfl<|.l rfl<|.i rfl<|.i rfl<|.nil) (.v rfl (.i<|.b<|.l<|.i<|.nil)<|.nil) rfl) (fun _=>rfl) rfl<|?_
  rintro n2 ⟨y61,y62⟩
  try dsimp only
  rw [dw_right_l2]
  refine .seq<|.region<|.p (ar rfl)<|.nil<|.seq<|.seq<|?_
  refine T.cond_p rfl iff_dec (fun h42 h43=>?_) (fun h42 h43=>?_)
  ·refine .skip<|.seq<|.seq<|.block<|.seq<|.region<|.guard fun h47=>?_
   refine TR.st 11 (.iptr [(.bool (((a0.getD y61.toNat zAD).M).Neg)),(slK (kInt .u32) (((a0.getD y61.toNat zAD).M).Mag)),(.int .i64 ((a0.getD y61.toNat zAD).E))]) [] (snd_indexK kD _ _ _ _ _ _ y61 rfl underlying96 si26 rfl rfl rfl rfl h47) rfl rfl rfl ?_
   refine .p (lai ag26 rfl)<|.w (al 1 ze26 rfl)<|.n (sa ag26 rfl)<|.nil<|.seq<|.draw mixed<|.p (mv rfl)<|.p (nc rfl)<|.p (fa 0 fl85_0 rfl)<|.p (la ag26 rfl)<|.bind fun x65 h48=>.p (c0 (dyad_Right_p h48) rfl)<|.bind fun x66 h49=>.w (cl (dyad_fault_must_k h49) [0] [] [true] rfl (.p rfl<|.b<|.i<|.nil) (.p rfl (.i<|.b<|.l<|.i<|.nil) .nil) fnil (.cons (.v (.i<|.b<|.l<|.i<|.nil)) .nil) (.bool _) (.turned .nil) rfl)<|?_
   refine .nil (by kernel_rfl)<|.block<|.seq<|.region<|.p (ar rfl)<|.p (mv rfl)<|.nil<|.again ((IntKind.i64.wrap (y61+1)),x66.2) (jn (m:=1) [(0,0)] hE (.p rfl rfl<|.l rfl<|.i rfl<|.i rfl<|.nil) (.v rfl (.i<|.b<|.l<|.i<|.nil)<|.nil) rfl) rfl
  ·refine .exit<|.seq_exit<|.loop_exit<|.block_exit<|.weak (h25 y62) (jn (m:=1) [(0,0)] hE (.p rfl rfl<|.nil) (.v rfl (.i<|.b<|.l<|.i<|.nil)<|.nil) rfl)
theorem dw_right_k {a0:List AD} {a1:Int} {a2:Bool} {a3:List Int} {a4:Int} {r:Bool × Int} (h:dw_right a0 a1 a2 a3 a4=some r):Cal Tryz.prog 76 [(.ptr 0 0),(slK kD a0)] [(.live 85 [(.int .i64 a1),(.bool a2),(slK (kInt .u32) a3),(.int .i64 a4)])] (.bool r.1) [(.live 85 [(.int .i64 r.2),(.bool a2),(slK (kInt .u32) a3),(.int .i64 a4)])]:=⟨⟨_,func76,nm76,rfl⟩,dw_right_c a0 a1 a2 a3 a4 _ h⟩
theorem dw_prec_c (a0:Int) (a1:Int) (a2:Bool) (a3:List Int) (a4:Int):∀ r,dw_prec a0 a1 a2 a3 a4=some r→ACalls Tryz.prog 145 [(.ptr 0 0),(.int .i64 a0)] (lw [(.live 85 [(.int .i64 a1),(.bool a2),(slK (kInt .u32) a3),(.int .i64 a4)])]) (.bool r.1) (ld [(.live 85 [(.int .i64 r.2),(.bool a2),(slK (kInt .u32) a3),(.int .i64 a4)])]):=by
 unfold dw_prec
 refine go 1 func145 ntmps145 rfl ?_
 intro E hE
 refine .seq<|.region<|.p (sg rfl)<|.nil<|.seq<|.seq<|.draw mixed<|.p (mv rfl)<|.p (nc rfl)<|.p (fa 0 fl85_0 rfl)<|.p (mv rfl)<|.bind fun x3 h1=>.p (c0 (dyad_within_p h1) rfl)<|.bind fun x4 h2=>?_
 refine .w (cl (dyad_fault_must_k h2) [0] [] [true] rfl (.p rfl<|.b<|.i<|.nil) (.p rfl (.i<|.b<|.l<|.i<|.nil) .nil) fnil (.cons (.v (.i<|.b<|.l<|.i<|.nil)) .nil) (.bool _) (.turned .nil) rfl)<|.p (sg rfl)<|.nil (by kernel_rfl)<|.seq<|.ret<|fin_1 (.inr rfl) (.k rfl (.nil _)) results145 (.t rfl) (AVle.refl _)
theorem dw_prec_k {a0:Int} {a1:Int} {a2:Bool} {a3:List Int} {a4:Int} {r:Bool × Int} (h:dw_prec a0 a1 a2 a3 a4=some r):Cal Tryz.prog 145 [(.ptr 0 0),(.int .i64 a0)] [(.live 85 [(.int .i64 a1),(.bool a2),(slK (kInt .u32) a3),(.int .i64 a4)])] (.bool r.1) [(.live 85 [(.int .i64 r.2),(.bool a2),(slK (kInt .u32) a3),(.int .i64 a4)])]:=⟨⟨_,func145,nm145,rfl⟩,dw_prec_c a0 a1 a2 a3 a4 _ h⟩
theorem mb_Div32_c (a0:Int) (a1:Int) (a2:Int):∀ r,mb_Div32 a0 a1 a2=some r→ACalls Tryz.prog 206 [(.int .u32 a0),(.int .u32 a1),(.int .u32 a2)] (lw []) (.tup [(.int .u32 r.1),(.int .u32 r.2)]) (ld []):=by
 unfold mb_Div32
 refine go 0 func206 ntmps206 rfl ?_
 intro E hE
 refine .seq<|.region<|.p (sg rfl)<|.p (sg rfl)<|.nil<|.seq<|.seq<|.seq<|?_
 refine T.cut (X:=Bool) (fun x=>mb_Div32_j1 a2 a0 a1 x) (fun x=>(mkS [(0,some (.int .u32 a0)),(1,some (.int .u32 a1)),(2,some (.int .u32 a2)),(15,some (.bool x))] [])) ?_ ?_
 ·rintro y2
  dsimp only [mb_Div32_j1]
  refine .seq<|?_
  refine T.cond_p rfl iff_b (fun h4 h5=>?_) (fun h4 h5=>?_)
  ·exact T.no
  ·refine .skip<|.seq<|.seq<|.region<|.p (mv rfl)<|.p (cv underlying77 underlying117 rfl)<|?_
   refine TR.st 19 (.int .u64 (shlI .u64 (IntKind.u64.wrap a0) 32)) [] (snd_shl _ _ _ _ _ _ _ _ rfl rfl rfl rfl rfl (by decide)) rfl rfl rfl ?_
   refine .p (mv rfl)<|.p (cv underlying77 underlying117 rfl)<|.p (ar rfl)<|.p (sg rfl)<|.nil<|.seq<|.seq<|.draw mixed<|.p (mv rfl)<|.p (mv rfl)<|.p (cv underlying77 underlying117 rfl)<|.guard fun h6=>?_
   refine TD.st 26 (.int .u64 (IntKind.u64.wrap ((orI .u64 (shlI .u64 (IntKind.u64.wrap a0) 32) (IntKind.u64.wrap a1)).tdiv (IntKind.u64.wrap a2)))) [] (snd_quo _ _ _ _ _ _ _ rfl rfl rfl rfl rfl h6) rfl rfl rfl ?_
   refine .p (cv underlying117 underlying77 rfl)<|.p (mv rfl)<|.p (mv rfl)<|.p (cv underlying77 underlying117 rfl)<|.guard fun h7=>?_
   refine TD.st 31 (.int .u64 ((orI .u64 (shlI .u64 (IntKind.u64.wrap a0) 32) (IntKind.u64.wrap a1)).tmod (IntKind.u64.wrap a2))) [] (snd_rem _ _ _ _ _ _ _ rfl rfl rfl rfl rfl h7) rfl rfl rfl ?_
   refine .p (cv underlying117 underlying77 rfl)<|.p (sg rfl)<|.p (sg rfl)<|.nil (by kernel_rfl)<|.seq<|.ret<|fin_2 (.inr rfl) (.nil _) results206 (.t rfl) (.t rfl) (AVle.refl _)
 ·intro h8
  refine .region<|.p (mv rfl)<|.p (ar rfl)<|.p (mv rfl)<|?_
  refine TR.gd 11 _ rfl iff_ne (fun h9=>?_) (fun h9=>?_)
  ·refine .p (mv rfl)<|.p (mv rfl)<|.p (ar rfl)<|.p (pt rfl)<|.nil<|.weak (h8 (decide (a2≤a0))) (jn (m:=0) [] hE (.i rfl<|.i rfl<|.i rfl<|.b rfl<|.nil) .nil rfl)
  ·refine .k rfl<|.k rfl<|.k rfl<|.p (pf rfl)<|.nil<|.weak (h8 false) (jn (m:=0) [] hE (.i rfl<|.i rfl<|.i rfl<|.b rfl<|.nil) .nil rfl)
theorem mb_Div32_p {a0:Int} {a1:Int} {a2:Int} {r:Int × Int} (h:mb_Div32 a0 a1 a2=some r):Pur Tryz.prog 206 [(.int .u32 a0),(.int .u32 a1),(.int .u32 a2)] (.tup [(.int .u32 r.1),(.int .u32 r.2)]):=⟨⟨_,func206,nm206,rfl⟩,mb_Div32_c a0 a1 a2 _ h,fun _=>(.i<|.i<|.i<|.nil),fun _=>(ren_tupL (.i<|.i<|.nil))⟩
theorem quo_short_c (a0:List Int) (a1:Int):∀ r,quo_short a0 a1=some r→ACalls Tryz.prog 189 [(slK (kInt .u32) a0),(.int .u32 a1)] (lw []) (.tup [(slK (kInt .u32) r.1),(slK (kInt .u32) r.2.1),(.bool r.2.2)]) (ld []):=by
 unfold quo_short
 refine go 0 func189 ntmps189 rfl ?_
 intro E hE
 refine .seq<|.region<|?_
 refine TR.st 4 (slK (kInt .u32) []) [] (Snd.le (snd_assign _ _ rfl rfl rfl rfl) AVle.nil) rfl rfl rfl ?_
 refine TR.st 5 (slK (kInt .u32) []) [] (Snd.le (snd_assign _ _ rfl rfl rfl rfl) AVle.nil) rfl rfl rfl ?_
 refine .p (sg rfl)<|.nil<|.seq<|.seq<|.region<|.p (mv rfl)<|.p (ln underlying22 rfl)<|.guard fun h1=>?_
 refine TR.st 12 (.row 0 (kInt .u32).sz 0 (((List.replicate a0.length (kInt .u32).z)).length)) [(0,(rwK (kInt .u32) 77 (List.replicate a0.length (kInt .u32).z)))] (snd_makeK (kInt .u32) _ _ _ _ _ 0 _ _ _ rfl underlying22 ze77 sb77 (by decide) rfl rfl rfl rfl rfl h1) rfl rfl rfl ?_
 refine .p (sg rfl)<|.nil<|.seq<|.seq<|.region<|.p (sg rfl)<|.nil<|.seq<|.seq<|.seq<|.region<|.p (mv rfl)<|.p (ln underlying22 rfl)<|.p (mv rfl)<|?_
 refine .nil<|.seq<|?_
 refine T.cut (X:=Int × (List Int)) (fun x=>quo_short_j1 x.1 x.2) (fun x=>(mkS [(4,some (.row 0 (kInt .u32).sz 0 ((x.2).length))),(7,some (.int .u32 x.1))] [(0,(rwK (kInt .u32) 77 x.2))])) ?_ ?_
 ·rintro ⟨y41,y42⟩
  dsimp only [quo_short_j1]
  refine .seq<|.seq<|?_
  refine T.weak ?_ (fun a w h=>Conc.freezeK (kInt .u32) h 4 0 0 ((y42).length) 77 y42 rfl rfl (by omega))
  refine T.weak ?_ (fun a w h=>take_all h)
  refine .region<|.p (mv rfl)<|.bind fun x43 h26=>.p (c0 (nat_Trim_p h26) rfl)<|.p (mv rfl)<|.p (cv underlying77 underlying117 rfl)<|.bind fun x44 h27=>.p (c0 (nat_From_p h27) rfl)<|.p (sg rfl)<|.p (sg rfl)<|.p (sg rfl)<|.nil<|.seq<|.ret<|fin_3 (.inr rfl) (.nil _) results189 (.t rfl) (.t rfl) (.t rfl) (AVle.refl _)
 ·intro h28
  refine .block<|.loopW (X:=Int × Int × (List Int)) (fun n x=>quo_short_l2 a0 a1 n x.1 x.2.1 x.2.2) (fun x=>(mkS [(0,some (slK (kInt .u32) a0)),(1,some (.int .u32 a1)),(4,some (.row 0 (kInt .u32).sz 0 ((x.2.2).length))),(7,some (.int .u32 x.1)),(14,some (.int .i64 (a0.length:Int))),(15,some (.int .i64 x.2.1))] [(0,(rwK (kInt .u32) 77 x.2.2))])) (0,0,(List.replicate a0.length (kInt .u32).z)) (jn (m:=0) [(0,0)] hE (.l rfl<|.i rfl<|.g rfl (.row _ _ _ _ _ rfl)<|.i rfl<|.i rfl<|.i rfl<|.nil) (.cons (.refl _) (renV_rw _ _)<|.nil) rfl) (fun _=>rfl) rfl<|?_
  rintro n2 ⟨y52,y53,y54⟩
  try dsimp only
  rw [quo_short_l2]
  refine .seq<|.region<|.p (ar rfl)<|.nil<|.seq<|.seq<|?_
  refine T.cond_p rfl iff_dec (fun h45 h46=>?_) (fun h45 h46=>?_)
  ·refine .skip<|.seq<|.seq<|.block<|.seq<|.region<|.p (mv rfl)<|.p (sg rfl)<|.nil<|.seq<|.seq<|.region<|.p (mv rfl)<|.p (ln underlying22 rfl)<|?_
   refine .p (ar rfl)<|.p (mv rfl)<|.p (ar rfl)<|.p (sg rfl)<|.nil<|.seq<|.region<|.p (mv rfl)<|.p (mv rfl)<|.p (mv rfl)<|.p (mv rfl)<|.p (mv rfl)<|.guard fun h50=>?_
   refine TR.st 29 (.iptr [(.int .u32 (a0.getD ((IntKind.i64.wrap ((IntKind.i64.wrap ((a0.length:Int)-1))-y53)).toNat) (kInt .u32).z))]) [] (snd_indexK (kInt .u32) _ _ _ _ _ _ (IntKind.i64.wrap ((IntKind.i64.wrap ((a0.length:Int)-1))-y53)) rfl underlying22 si77 rfl rfl rfl rfl h50) rfl rfl rfl ?_
   refine .p (lsi sc77 rfl)<|.p (mv rfl)<|.bind fun x56 h51=>.p (c0 (mb_Div32_p h51) rfl)<|.p (mv rfl)<|.p (xt rfl)<|.p (xt rfl)<|.guard fun h52=>?_
   obtain ⟨h521,h522⟩:=h52
   refine TR.st 35 (.rptr 0 (kInt .u32).sz ((IntKind.i64.wrap ((IntKind.i64.wrap ((a0.length:Int)-1))-y53)).toNat) 0) [] (idx_r (snd_index_r _ _ _ _ _ 0 0 ((y54).length) _ (IntKind.i64.wrap ((IntKind.i64.wrap ((a0.length:Int)-1))-y53)) rfl underlying22 si77 rfl rfl rfl rfl h521 (by omega)) (Nat.zero_add _)) rfl rfl rfl ?_
   refine TR.sn [(0,(rwK (kInt .u32) 77 ((y54).set ((IntKind.i64.wrap ((IntKind.i64.wrap ((a0.length:Int)-1))-y53)).toNat) x56.1)))] (snd_storeK_sca (kInt .u32) _ _ _ 0 ((IntKind.i64.wrap ((IntKind.i64.wrap ((a0.length:Int)-1))-y53)).toNat) _ _ x56.1 _ rfl rfl rfl sc77 rfl rfl rfl rfl rfl rfl (by first | omega | (simp only [List.length_set]; omega))) rfl rfl ?_
   refine TR.weak ?_ (fun a w h=>Conc.relen h 4 ((((y54).set ((IntKind.i64.wrap ((IntKind.i64.wrap ((a0.length:Int)-1))-y53)).toNat) x56.1)).length) rfl List.length_set.symm)
   refine .p (sg rfl)<|.nil<|.block<|.seq<|.region<|.p (ar rfl)<|.p (mv rfl)<|.nil<|.again (x56.2,(IntKind.i64.wrap (y53+1)),((y54).set ((IntKind.i64.wrap ((IntKind.i64.wrap ((a0.length:Int)-1))-y53)).toNat) x56.1)) (jn (m:=0) [(0,0)] hE (.l rfl<|.i rfl<|.g rfl (.row _ _ _ _ _ rfl)<|.i rfl<|.i rfl<|.i rfl<|.nil) (.cons (.refl _) (renV_rw _ _)<|.nil) rfl) rfl
  ·refine .exit<|.seq_exit<|.loop_exit<|.block_exit<|.weak (h28 (y52,y54)) (jn (m:=0) [(0,0)] hE (.g rfl (.row _ _ _ _ _ rfl)<|.i rfl<|.nil) (.cons (.refl _) (renV_rw _ _)<|.nil) rfl)
theorem quo_short_p {a0:List Int} {a1:Int} {r:(List Int) × (List Int) × Bool} (h:quo_short a0 a1=some r):Pur Tryz.prog 189 [(slK (kInt .u32) a0),(.int .u32 a1)] (.tup [(slK (kInt .u32) r.1),(slK (kInt .u32) r.2.1),(.bool r.2.2)]):=⟨⟨_,func189,nm189,rfl⟩,quo_short_c a0 a1 _ h,fun _=>(.l<|.i<|.nil),fun _=>(ren_tupL (.l<|.l<|.b<|.nil))⟩
theorem mb_LeadingZeros32_c (a0:Int):∀ r,mb_LeadingZeros32 a0=some r→ACalls Tryz.prog 207 [(.int .u32 a0)] (lw []) (.int .i64 r) (ld []):=by
 unfold mb_LeadingZeros32
 refine go 0 func207 ntmps207 rfl ?_
 intro E hE
 refine .seq<|.region<|.p (sg rfl)<|.nil<|.seq<|.seq<|.region<|.p (mv rfl)<|.bind fun x2 h1=>.p (c0 (mb_Len32_p h1) rfl)<|.p (ar rfl)<|.p (sg rfl)<|.nil<|.seq<|?_
 refine .ret<|fin_1 (.inr rfl) (.nil _) results207 (.t rfl) (AVle.refl _)
theorem mb_LeadingZeros32_p {a0:Int} {r:Int} (h:mb_LeadingZeros32 a0=some r):Pur Tryz.prog 207 [(.int .u32 a0)] (.int .i64 r):=⟨⟨_,func207,nm207,rfl⟩,mb_LeadingZeros32_c a0 _ h,fun _=>(.i<|.nil),fun _=>(.int _ _)⟩
theorem quo_take_c (a0:Nat) (a1:Nat) (a2:List Int) (a3:Int) (a4:List Int):∀ r,quo_take a0 a1 a2 a3 a4=some r→ACalls Tryz.prog 208 [(.row 0 (kInt .u32).sz a0 a1),(slK (kInt .u32) a2),(.int .u64 a3)] (lw [(rwK (kInt .u32) 77 a4)]) (.bool r.1) (ld [(rwK (kInt .u32) 77 r.2)]):=by
 unfold quo_take
 refine go 1 func208 ntmps208 rfl ?_
 intro E hE
 refine .seq<|.region<|.p (sg rfl)<|.nil<|.seq<|.seq<|.region<|.p (sg rfl)<|.nil<|.seq<|.seq<|.region<|.p (sg rfl)<|.nil<|?_
 refine .seq<|.seq<|.seq<|.region<|.p (mv rfl)<|.p (ln underlying22 rfl)<|.p (mv rfl)<|.nil<|.seq<|?_
 refine T.cut (X:=Int × Int × (List Int)) (fun x=>quo_take_j1 a2 a1 a0 x.1 x.2.1 x.2.2) (fun x=>(mkS [(0,some (.row 0 (kInt .u32).sz a0 a1)),(1,some (slK (kInt .u32) a2)),(7,some (.int .u64 x.1)),(8,some (.int .u32 x.2.1))] [(0,(rwK (kInt .u32) 77 x.2.2))])) ?_ ?_
 ·rintro ⟨y47,y48,y49⟩
  dsimp only [quo_take_j1]
  refine .seq<|.seq<|.region<|.p (mv rfl)<|.p (mv rfl)<|.p (ln underlying22 rfl)<|.p (mv rfl)<|.p (mv rfl)<|.p (ln underlying22 rfl)<|.guard fun h31=>?_
  obtain ⟨h311,h312,h313⟩:=h31
  refine TR.st 49 (.rptr 0 (kInt .u32).sz (a0+a2.length) 0) [] (idx_r (snd_index_r _ _ _ _ _ 0 a0 a1 _ (a2.length:Int) rfl underlying22 si77 rfl rfl rfl rfl h311 (by omega)) rfl) rfl rfl rfl ?_
  refine TR.st 50 (.int .u32 ((y49).getD (a0+a2.length) (kInt .u32).z)) [] (snd_loadK_sca (kInt .u32) _ _ 0 (a0+a2.length) 0 _ _ rfl sc77 rfl rfl rfl rfl (by first | omega | (simp only [List.length_set]; omega)) (by decide)) rfl rfl rfl ?_
  refine .p (mv rfl)<|.p (cv underlying117 underlying77 rfl)<|.p (mv rfl)<|.bind fun x50 h32=>.p (c0 (mb_Sub32_p h32) rfl)<|.p (mv rfl)<|.p (xt rfl)<|.p (xt rfl)<|.guard fun h33=>?_
  obtain ⟨h331,h332,h333⟩:=h33
  refine TR.st 57 (.rptr 0 (kInt .u32).sz (a0+a2.length) 0) [] (idx_r (snd_index_r _ _ _ _ _ 0 a0 a1 _ (a2.length:Int) rfl underlying22 si77 rfl rfl rfl rfl h331 (by omega)) rfl) rfl rfl rfl ?_
  refine TR.sn [(0,(rwK (kInt .u32) 77 ((y49).set (a0+a2.length) x50.1)))] (snd_storeK_sca (kInt .u32) _ _ _ 0 (a0+a2.length) _ _ x50.1 _ rfl rfl rfl sc77 rfl rfl rfl rfl rfl rfl (by first | omega | (simp only [List.length_set]; omega))) rfl rfl ?_
  refine .p (sg rfl)<|.nil<|.seq<|.seq<|.region<|.p (mv rfl)<|.p (ar rfl)<|.p (sg rfl)<|.nil<|.seq<|.ret<|fin_1 (.inr rfl) (.k rfl (.nil _)) results208 (.t rfl) (AVle.refl _)
 ·intro h34
  refine .block<|.loopW (X:=Int × Int × Int × (List Int)) (fun n x=>quo_take_l2 a2 a1 a0 a3 n x.1 x.2.1 x.2.2.1 x.2.2.2) (fun x=>(mkS [(0,some (.row 0 (kInt .u32).sz a0 a1)),(1,some (slK (kInt .u32) a2)),(2,some (.int .u64 a3)),(7,some (.int .u64 x.1)),(8,some (.int .u32 x.2.1)),(12,some (slK (kInt .u32) a2)),(13,some (.int .i64 (a2.length:Int))),(14,some (.int .i64 x.2.2.1))] [(0,(rwK (kInt .u32) 77 x.2.2.2))])) (0,0,0,a4) (jn (m:=1) [(0,0)] hE (.g rfl (.row _ _ _ _ _ rfl)<|.l rfl<|.i rfl<|.i rfl<|.i rfl<|.l rfl<|.i rfl<|.i rfl<|.nil) (.cons (.refl _) (renV_rw _ _)<|.nil) rfl) (fun _=>rfl) rfl<|?_
  rintro n2 ⟨y59,y60,y61,y62⟩
  try dsimp only
  rw [quo_take_l2]
  refine .seq<|.region<|.p (ar rfl)<|.nil<|.seq<|.seq<|?_
  refine T.cond_p rfl iff_dec (fun h55 h56=>?_) (fun h55 h56=>?_)
  ·refine .skip<|.seq<|.seq<|.block<|.seq<|.region<|.p (mv rfl)<|.guard fun h61=>?_
   refine TR.st 17 (.iptr [(.int .u32 (a2.getD y61.toNat (kInt .u32).z))]) [] (snd_indexK (kInt .u32) _ _ _ _ _ _ y61 rfl underlying22 si77 rfl rfl rfl rfl h61) rfl rfl rfl ?_
   refine .p (lsi sc77 rfl)<|.p (sg rfl)<|.p (sg rfl)<|.nil<|.seq<|.seq<|.region<|.p (mv rfl)<|.p (cv underlying77 underlying117 rfl)<|.p (mv rfl)<|.p (ar rfl)<|.p (mv rfl)<|.p (ar rfl)<|.p (sg rfl)<|?_
   refine .nil<|.seq<|.seq<|.region<|.p (mv rfl)<|?_
   refine TR.st 26 (.int .u64 (shrI .u64 (IntKind.u64.wrap ((IntKind.u64.wrap ((IntKind.u64.wrap (a2.getD y61.toNat (kInt .u32).z))*a3))+y59)) 32)) [] (snd_shr _ _ _ _ _ _ _ _ rfl rfl rfl rfl rfl (by decide)) rfl rfl rfl ?_
   refine .p (sg rfl)<|.nil<|.seq<|.region<|.p (mv rfl)<|.p (mv rfl)<|.p (mv rfl)<|.p (mv rfl)<|.guard fun h62=>?_
   obtain ⟨h621,h622,h623⟩:=h62
   refine TR.st 32 (.rptr 0 (kInt .u32).sz (a0+y61.toNat) 0) [] (idx_r (snd_index_r _ _ _ _ _ 0 a0 a1 _ y61 rfl underlying22 si77 rfl rfl rfl rfl h621 (by omega)) rfl) rfl rfl rfl ?_
   refine TR.st 33 (.int .u32 ((y62).getD (a0+y61.toNat) (kInt .u32).z)) [] (snd_loadK_sca (kInt .u32) _ _ 0 (a0+y61.toNat) 0 _ _ rfl sc77 rfl rfl rfl rfl (by first | omega | (simp only [List.length_set]; omega)) (by decide)) rfl rfl rfl ?_
   refine .p (mv rfl)<|.p (cv underlying117 underlying77 rfl)<|.p (mv rfl)<|.bind fun x64 h63=>.p (c0 (mb_Sub32_p h63) rfl)<|.p (mv rfl)<|.p (xt rfl)<|.p (xt rfl)<|.guard fun h64=>?_
   obtain ⟨h641,h642,h643⟩:=h64
   refine TR.st 40 (.rptr 0 (kInt .u32).sz (a0+y61.toNat) 0) [] (idx_r (snd_index_r _ _ _ _ _ 0 a0 a1 _ y61 rfl underlying22 si77 rfl rfl rfl rfl h641 (by omega)) rfl) rfl rfl rfl ?_
   refine TR.sn [(0,(rwK (kInt .u32) 77 ((y62).set (a0+y61.toNat) x64.1)))] (snd_storeK_sca (kInt .u32) _ _ _ 0 (a0+y61.toNat) _ _ x64.1 _ rfl rfl rfl sc77 rfl rfl rfl rfl rfl rfl (by first | omega | (simp only [List.length_set]; omega))) rfl rfl ?_
   refine .p (sg rfl)<|.nil<|.block<|.seq<|.region<|.p (ar rfl)<|.p (mv rfl)<|.nil<|.again ((shrI .u64 (IntKind.u64.wrap ((IntKind.u64.wrap ((IntKind.u64.wrap (a2.getD y61.toNat (kInt .u32).z))*a3))+y59)) 32),x64.2,(IntKind.i64.wrap (y61+1)),((y62).set (a0+y61.toNat) x64.1)) (jn (m:=1) [(0,0)] hE (.g rfl (.row _ _ _ _ _ rfl)<|.l rfl<|.i rfl<|.i rfl<|.i rfl<|.l rfl<|.i rfl<|.i rfl<|.nil) (.cons (.refl _) (renV_rw _ _)<|.nil) rfl) rfl
  ·refine .exit<|.seq_exit<|.loop_exit<|.block_exit<|.weak (h34 (y59,y60,y62)) (jn (m:=1) [(0,0)] hE (.g rfl (.row _ _ _ _ _ rfl)<|.l rfl<|.i rfl<|.i rfl<|.nil) (.cons (.refl _) (renV_rw _ _)<|.nil) rfl)
theorem quo_take_k {a0:Nat} {a1:Nat} {a2:List Int} {a3:Int} {a4:List Int} {r:Bool × (List Int)} (h:quo_take a0 a1 a2 a3 a4=some r):Cal Tryz.prog 208 [(.row 0 (kInt .u32).sz a0 a1),(slK (kInt .u32) a2),(.int .u64 a3)] [(rwK (kInt .u32) 77 a4)] (.bool r.1) [(rwK (kInt .u32) 77 r.2)]:=⟨⟨_,func208,nm208,rfl⟩,quo_take_c a0 a1 a2 a3 a4 _ h⟩
end Go.Proofs.YtpmpcohbpankaaaGreat.Gen
