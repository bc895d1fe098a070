/- Printed by gen.py: a call does what the plain function says. -/
import Derived.Test.YtpmpcohbpankaaaGreatKonstToldGenP1
namespace Go.Proofs.YtpmpcohbpankaaaGreat.Gen
open Go Go.Abs Go.Proofs Go.Proofs.Tryz
theorem small_odd_1_df97_c (a0:Int) (a1:AI) (a2:Int) (a3:Int) (a4:Bool) (a5:List Int) (a6:Int) (a7:Bool) (a8:List Int) (a9:Int):∀ r,small_odd_1_df97 a0 a1 a2 a3 a4 a5 a6 a7 a8 a9=some r→ACalls Tryz.prog 175 [(.int .i64 a0),(.agg (kI.enc a1)),(.ptr 0 0),(.ptr 2 0),(.ptr 3 0)] (lw [(.live 47 [(.fn 33 [(.ptr 1 0)] [])]),(.live 45 [(.int .i64 a2),(.int .i64 a3)]),(.live 28 [(.ptr 1 0)]),(.live 34 [(.bool a4),(slK (kInt .u32) a5),(.int .i64 a6),(.bool a7),(slK (kInt .u32) a8),(.int .i64 a9)])]) (.tup [(.agg (kI.enc (⟨⟨(((r.1).Lo).M),((r.1).Lo).E⟩,⟨(((r.1).Hi).M),((r.1).Hi).E⟩⟩:AI))),(.agg (kI.enc (⟨⟨(((r.2.1).Lo).M),((r.2.1).Lo).E⟩,⟨(((r.2.1).Hi).M),((r.2.1).Hi).E⟩⟩:AI)))]) (ld [(.live 47 [(.fn 33 [(.ptr 1 0)] [])]),(.live 45 [(.int .i64 r.2.2),(.int .i64 a3)]),(.live 28 [(.ptr 1 0)]),(.live 34 [(.bool a4),(slK (kInt .u32) a5),(.int .i64 a6),(.bool a7),(slK (kInt .u32) a8),(.int .i64 a9)])]):=by
 unfold small_odd_1_df97
 refine go 4 func175 ntmps175 rfl ?_
 intro E hE
 refine .seq<|.region<|.w (bx 4 rfl)<|.w (al 5 ze34 rfl)<|.w (al 6 ze34 rfl)<|.nil<|.seq<|.seq<|.draw mixed<|.p (ls sc47 rfl)<|.p (ls sc28 rfl)<|.p (la ag34 rfl)<|.p (la ag34 rfl)<|.bind fun x5 h1=>?_
 refine .w (cl (cv_Mul_k h1) [1] [] [true] rfl (.p rfl<|.a kI<|.a kI<|.nil) (.p rfl (.i<|.i<|.nil) .nil) fnil (.cons (.v (.i<|.i<|.nil)) .nil) (ren_agg (K:=kI) _) (.turned .nil) rfl)<|.bind fun x6 h2=>.w (cl (cv_Neg_k h2) [1] [] [true] rfl (.p rfl<|.a kI<|.nil) (.p rfl (.i<|.i<|.nil) .nil) fnil (.cons (.v (.i<|.i<|.nil)) .nil) (ren_agg (K:=kI) _) (.turned .nil) rfl)<|.n (sa ag34 rfl)<|.nil (by kernel_rfl)<|.seq<|.seq<|.draw mixed<|.p (la ag34 rfl)<|.p (ls sc28 rfl)<|.p (la ag34 rfl)<|.p (ls sc28 rfl)<|.p (mv rfl)<|.p (ar rfl)<|?_
 refine .p (ar rfl)<|.bind fun x7 h3=>.w (cl (cv_Int_k h3) [1] [] [true] rfl (.p rfl<|.i<|.nil) (.p rfl (.i<|.i<|.nil) .nil) fnil (.cons (.v (.i<|.i<|.nil)) .nil) (ren_agg (K:=kI) _) (.turned .nil) rfl)<|.bind fun x8 h4=>.w (cl (cv_Div_k h4) [1] [] [true] rfl (.p rfl<|.a kI<|.a kI<|.nil) (.p rfl (.i<|.i<|.nil) .nil) fnil (.cons (.v (.i<|.i<|.nil)) .nil) (ren_agg (K:=kI) _) (.turned .nil) rfl)<|.n (sa ag34 rfl)<|.n (sa ag34 rfl)<|.nil (by kernel_rfl)<|.seq<|.ret<|fin_2 (.inr rfl) (.k rfl (.k rfl (.k rfl (.k rfl (.nil _))))) results175 (.a ag34 rfl) (.a ag34 rfl) (AVle.refl _)
theorem small_odd_1_df97_k {a0:Int} {a1:AI} {a2:Int} {a3:Int} {a4:Bool} {a5:List Int} {a6:Int} {a7:Bool} {a8:List Int} {a9:Int} {r:AI × AI × Int} (h:small_odd_1_df97 a0 a1 a2 a3 a4 a5 a6 a7 a8 a9=some r):Cal Tryz.prog 175 [(.int .i64 a0),(.agg (kI.enc a1)),(.ptr 0 0),(.ptr 2 0),(.ptr 3 0)] [(.live 47 [(.fn 33 [(.ptr 1 0)] [])]),(.live 45 [(.int .i64 a2),(.int .i64 a3)]),(.live 28 [(.ptr 1 0)]),(.live 34 [(.bool a4),(slK (kInt .u32) a5),(.int .i64 a6),(.bool a7),(slK (kInt .u32) a8),(.int .i64 a9)])] (.tup [(.agg (kI.enc (⟨⟨(((r.1).Lo).M),((r.1).Lo).E⟩,⟨(((r.1).Hi).M),((r.1).Hi).E⟩⟩:AI))),(.agg (kI.enc (⟨⟨(((r.2.1).Lo).M),((r.2.1).Lo).E⟩,⟨(((r.2.1).Hi).M),((r.2.1).Hi).E⟩⟩:AI)))]) [(.live 47 [(.fn 33 [(.ptr 1 0)] [])]),(.live 45 [(.int .i64 r.2.2),(.int .i64 a3)]),(.live 28 [(.ptr 1 0)]),(.live 34 [(.bool a4),(slK (kInt .u32) a5),(.int .i64 a6),(.bool a7),(slK (kInt .u32) a8),(.int .i64 a9)])]:=⟨⟨_,func175,nm175,rfl⟩,small_odd_1_df97_c a0 a1 a2 a3 a4 a5 a6 a7 a8 a9 _ h⟩
theorem dyad_Add_c (a0:AD) (a1:AD):∀ r,dyad_Add a0 a1=some r→ACalls Tryz.prog 19 [(.agg (kD.enc a0)),(.agg (kD.enc a1))] (lw []) (.tup [(.agg (kD.enc (⟨((r.1).M),(r.1).E⟩:AD))),(.int .i64 r.2)]) (ld []):=by
 unfold dyad_Add
 refine go 0 func19 ntmps19 rfl ?_
 intro E hE
 refine .seq<|.region<|.w (bx 0 rfl)<|.w (bx 1 rfl)<|.w (al 2 ze26 rfl)<|.p (sg rfl)<|.nil<|.seq<|.seq<|.region<|.p (bd ze85 pl85 rfl)<|.w (bx 3 rfl)<|.p (sg rfl)<|.nil<|?_
 refine .seq<|.seq<|.seq<|.region<|.p (mv rfl)<|.p (la ag26 rfl)<|.p (la ag26 rfl)<|?_
 refine TR.st 12 (slK kD [a0,a1]) [] (snd_buildSlice _ _ _ 3 _ _ [(0,(.agg (kD.enc a0))),(1,(.agg (kD.enc a1)))] (List.map kD.enc [a0,a1]) rfl underlying96 ze26 si26 rfl rfl rfl (by decide) (by decide) (by decide) rfl rfl (Kd.even _) rfl) rfl rfl rfl ?_
 refine .bind fun x8 h1=>.w (cl (dw_right_k h1) [3] [] [true] rfl (.p rfl<|.l<|.nil) (.p rfl (.i<|.b<|.l<|.i<|.nil) .nil) fnil (.cons (.v (.i<|.b<|.l<|.i<|.nil)) .nil) (.bool _) (.turned .nil) rfl)<|.nil<|.seq<|?_
 refine T.cut (X:=Bool × (List Int) × Int) (fun x=>dyad_Add_j1 x8 x.1 x.2.1 x.2.2) (fun x=>(mkS [(4,some (.ptr 2 0)),(6,some (.ptr 3 0))] [(2,(.live 26 [(.bool false),(slK (kInt .u32) []),(.int .i64 0)])),(3,(.live 85 [(.int .i64 x8.2),(.bool x.1),(slK (kInt .u32) x.2.1),(.int .i64 x.2.2)]))])) ?_ ?_
 ·rintro ⟨y10,y11,y12⟩
  dsimp only [dyad_Add_j1]
  refine .seq<|.seq<|.region<|.p (mv rfl)<|.bind fun x13 h5=>.w (cl (dw_told_k h5) [3] [] [true] rfl (.p rfl<|.nil) (.p rfl (.i<|.b<|.l<|.i<|.nil) .nil) fnil (.cons (.v (.i<|.b<|.l<|.i<|.nil)) .nil) (ren_tupL (.a kD<|.i<|.nil)) (.turned .nil) rfl)<|.p (xt rfl)<|.p (xt rfl)<|.n (sa ag26 rfl)<|.p (sg rfl)<|.nil<|.seq<|.ret<|fin_2 (.inr rfl) (.nil _) results19 (.a ag26 rfl) (.t rfl) (AVle.refl _)
 ·intro h6
  refine T.cond_p rfl iff_b (fun h7 h8=>?_) (fun h7 h8=>?_)
  ·refine .region<|.p (mv rfl)<|.p (la ag26 rfl)<|.p (la ag26 rfl)<|.bind fun x14 h9=>.p (c0 (dyad_sum_p h9) rfl)<|.p (nc rfl)<|.p (fa 1 fl85_1 rfl)<|.n (sa ag26 rfl)<|.nil<|.weak (h6 (((x14).M).Neg,((x14).M).Mag,(x14).E)) (jn (m:=0) [(2,2),(3,3)] hE (.p rfl rfl<|.p rfl rfl<|.nil) (.v rfl (.b<|.l<|.i<|.nil)<|.v rfl (.i<|.b<|.l<|.i<|.nil)<|.nil) rfl)
  ·refine .skip<|.weak (h6 (false,[],0)) (jn (m:=0) [(2,2),(3,3)] hE (.p rfl rfl<|.p rfl rfl<|.nil) (.v rfl (.b<|.l<|.i<|.nil)<|.v rfl (.i<|.b<|.l<|.i<|.nil)<|.nil) rfl)
theorem dyad_Add_p {a0:AD} {a1:AD} {r:AD × Int} (h:dyad_Add a0 a1=some r):Pur Tryz.prog 19 [(.agg (kD.enc a0)),(.agg (kD.enc a1))] (.tup [(.agg (kD.enc (⟨((r.1).M),(r.1).E⟩:AD))),(.int .i64 r.2)]):=⟨⟨_,func19,nm19,rfl⟩,dyad_Add_c a0 a1 _ h,fun _=>(.a kD<|.a kD<|.nil),fun _=>(ren_tupL (.a kD<|.i<|.nil))⟩
theorem cv_sum_c (a0:AD) (a1:AD) (a2:Int) (a3:Int):∀ r,cv_sum a0 a1 a2 a3=some r→ACalls Tryz.prog 86 [(.ptr 0 0),(.agg (kD.enc a0)),(.agg (kD.enc a1))] (lw [(.live 45 [(.int .i64 a2),(.int .i64 a3)])]) (.agg (kD.enc (⟨((r.1).M),(r.1).E⟩:AD))) (ld [(.live 45 [(.int .i64 r.2),(.int .i64 a3)])]):=by
 unfold cv_sum
 refine go 1 func86 ntmps86 rfl ?_
 intro E hE
 refine .seq<|.region<|.w (bx 1 rfl)<|.w (bx 2 rfl)<|.w (al 3 ze26 rfl)<|.nil<|.seq<|.seq<|.seq<|.region<|.p (mv rfl)<|.p (nc rfl)<|.p (fa 0 fl45_0 rfl)<|.p (fa 0 fl43_0 rfl)<|?_
 refine .p (ls sc29 rfl)<|.p (ar rfl)<|.nil<|.seq<|?_
 refine T.cond_p rfl iff_ne (fun h1 h2=>?_) (fun h1 h2=>?_)
 ·refine .seq<|.region<|.p (bd ze26 pl26 rfl)<|.n (sa ag26 rfl)<|.nil<|.seq<|.ret<|.seq_ret<|fin_1 (.inr rfl) (.k rfl (.nil _)) results86 (.a ag26 rfl) (AVle.refl _)
 ·refine .skip<|.seq<|.seq<|.region<|.p (mv rfl)<|.p (la ag26 rfl)<|.p (la ag26 rfl)<|.bind fun x3 h3=>.p (c0 (dyad_Add_p h3) rfl)<|.p (xt rfl)<|.p (xt rfl)<|.bind fun x4 h4=>.w (cl (cv_take_k h4) [0] [] [true] rfl (.p rfl<|.a kD<|.i<|.nil) (.p rfl (.i<|.i<|.nil) .nil) fnil (.cons (.v (.i<|.i<|.nil)) .nil) (ren_agg (K:=kD) _) (.turned .nil) rfl)<|.n (sa ag26 rfl)<|?_
  refine .nil<|.seq<|.ret<|fin_1 (.inr rfl) (.k rfl (.nil _)) results86 (.a ag26 rfl) (AVle.refl _)
theorem cv_sum_k {a0:AD} {a1:AD} {a2:Int} {a3:Int} {r:AD × Int} (h:cv_sum a0 a1 a2 a3=some r):Cal Tryz.prog 86 [(.ptr 0 0),(.agg (kD.enc a0)),(.agg (kD.enc a1))] [(.live 45 [(.int .i64 a2),(.int .i64 a3)])] (.agg (kD.enc (⟨((r.1).M),(r.1).E⟩:AD))) [(.live 45 [(.int .i64 r.2),(.int .i64 a3)])]:=⟨⟨_,func86,nm86,rfl⟩,cv_sum_c a0 a1 a2 a3 _ h⟩
theorem cv_Add_c (a0:AI) (a1:AI) (a2:Int) (a3:Int):∀ r,cv_Add a0 a1 a2 a3=some r→ACalls Tryz.prog 23 [(.ptr 0 0),(.agg (kI.enc a0)),(.agg (kI.enc a1))] (lw [(.live 45 [(.int .i64 a2),(.int .i64 a3)])]) (.agg (kI.enc (⟨⟨(((r.1).Lo).M),((r.1).Lo).E⟩,⟨(((r.1).Hi).M),((r.1).Hi).E⟩⟩:AI))) (ld [(.live 45 [(.int .i64 r.2),(.int .i64 a3)])]):=by
 unfold cv_Add
 refine go 1 func23 ntmps23 rfl ?_
 intro E hE
 refine .seq<|.region<|.w (bx 1 rfl)<|.w (bx 2 rfl)<|.w (al 3 ze34 rfl)<|.nil<|.seq<|.seq<|.seq<|.region<|.p (mv rfl)<|.p (la ag34 rfl)<|.p (la ag34 rfl)<|?_
 refine TR.st 11 (slK kI [a0,a1]) [] (snd_buildSlice _ _ _ 6 _ _ [(0,(.agg (kI.enc a0))),(1,(.agg (kI.enc a1)))] (List.map kI.enc [a0,a1]) rfl underlying104 ze34 si34 rfl rfl rfl (by decide) (by decide) (by decide) rfl rfl (Kd.even _) rfl) rfl rfl rfl ?_
 refine .bind fun x7 h1=>.w (cl (cv_fine_k h1) [0] [] [true] rfl (.p rfl<|.l<|.nil) (.p rfl (.i<|.i<|.nil) .nil) fnil (.cons (.v (.i<|.i<|.nil)) .nil) (.bool _) (.turned .nil) rfl)<|.p (un rfl)<|.nil<|.seq<|?_
 refine T.cond_p rfl iff_nb (fun h2 h3=>?_) (fun h2 h3=>?_)
 ·refine .seq<|.region<|.p (bd ze34 pl34 rfl)<|.n (sa ag34 rfl)<|.nil<|.seq<|.ret<|.seq_ret<|fin_1 (.inr rfl) (.k rfl (.nil _)) results23 (.a ag34 rfl) (AVle.refl _)
 ·refine .skip<|.seq<|.seq<|.region<|.p (mv rfl)<|.p (mv rfl)<|.p (fa 0 fl34_0 rfl)<|.p (la ag26 rfl)<|.p (fa 0 fl34_0 rfl)<|.p (la ag26 rfl)<|.bind fun x8 h4=>.w (cl (cv_sum_k h4) [0] [] [true] rfl (.p rfl<|.a kD<|.a kD<|.nil) (.p rfl (.i<|.i<|.nil) .nil) fnil (.cons (.v (.i<|.i<|.nil)) .nil) (ren_agg (K:=kD) _) (.turned .nil) rfl)<|.bind fun x9 h5=>.w (cl (cv_down_k h5) [0] [] [true] rfl (.p rfl<|.a kD<|.nil) (.p rfl (.i<|.i<|.nil) .nil) fnil (.cons (.v (.i<|.i<|.nil)) .nil) (ren_agg (K:=kD) _) (.turned .nil) rfl)<|?_
  refine .w (al 4 ze26 rfl)<|.n (sa ag26 rfl)<|.nil<|.seq<|.seq<|.draw mixed<|.p (mv rfl)<|.p (la ag26 rfl)<|.p (mv rfl)<|.p (mv rfl)<|.p (fa 3 fl34_1 rfl)<|.p (la ag26 rfl)<|.p (fa 3 fl34_1 rfl)<|.p (la ag26 rfl)<|?_
  refine .bind fun x10 h6=>.w (cl (cv_sum_k h6) [0] [] [true] rfl (.p rfl<|.a kD<|.a kD<|.nil) (.p rfl (.i<|.i<|.nil) .nil) fnil (.cons (.v (.i<|.i<|.nil)) .nil) (ren_agg (K:=kD) _) (.turned .nil) rfl)<|.bind fun x11 h7=>.w (cl (cv_up_k h7) [0] [] [true] rfl (.p rfl<|.a kD<|.nil) (.p rfl (.i<|.i<|.nil) .nil) fnil (.cons (.v (.i<|.i<|.nil)) .nil) (ren_agg (K:=kD) _) (.turned .nil) rfl)<|.bind fun x12 h8=>.p (cl (cv_out_k h8) [0] [] [false] rfl (.p rfl<|.a kD<|.a kD<|.nil) (.p rfl (.i<|.i<|.nil) .nil) fnil (.cons (.v (.i<|.i<|.nil)) .nil) (ren_agg (K:=kI) _) (.kept rfl .nil) rfl)<|.n (sa ag34 rfl)<|.nil (by kernel_rfl)<|.seq<|.ret<|fin_1 (.inr rfl) (.k rfl (.nil _)) results23 (.a ag34 rfl) (AVle.refl _)
theorem cv_Add_k {a0:AI} {a1:AI} {a2:Int} {a3:Int} {r:AI × Int} (h:cv_Add a0 a1 a2 a3=some r):Cal Tryz.prog 23 [(.ptr 0 0),(.agg (kI.enc a0)),(.agg (kI.enc a1))] [(.live 45 [(.int .i64 a2),(.int .i64 a3)])] (.agg (kI.enc (⟨⟨(((r.1).Lo).M),((r.1).Lo).E⟩,⟨(((r.1).Hi).M),((r.1).Hi).E⟩⟩:AI))) [(.live 45 [(.int .i64 r.2),(.int .i64 a3)])]:=⟨⟨_,func23,nm23,rfl⟩,cv_Add_c a0 a1 a2 a3 _ h⟩
theorem cv_Wide_c (a0:AI) (a1:AD) (a2:Int) (a3:Int):∀ r,cv_Wide a0 a1 a2 a3=some r→ACalls Tryz.prog 35 [(.ptr 0 0),(.agg (kI.enc a0)),(.agg (kD.enc a1))] (lw [(.live 45 [(.int .i64 a2),(.int .i64 a3)])]) (.agg (kI.enc (⟨⟨(((r.1).Lo).M),((r.1).Lo).E⟩,⟨(((r.1).Hi).M),((r.1).Hi).E⟩⟩:AI))) (ld [(.live 45 [(.int .i64 r.2),(.int .i64 a3)])]):=by
 unfold cv_Wide
 refine go 1 func35 ntmps35 rfl ?_
 intro E hE
 refine .seq<|.region<|.w (bx 1 rfl)<|.w (bx 2 rfl)<|.w (al 3 ze34 rfl)<|.nil<|.seq<|.seq<|.seq<|.region<|.p (mv rfl)<|.p (la ag34 rfl)<|.p (la ag26 rfl)<|.p (bd ze34 pl34 rfl)<|?_
 refine TR.st 12 (slK kI [a0,(⟨⟨⟨false,[]⟩,0⟩,a1⟩:AI)]) [] (snd_buildSlice _ _ _ 6 _ _ [(0,(.agg (kI.enc a0))),(1,(.agg (kI.enc (⟨⟨⟨false,[]⟩,0⟩,a1⟩:AI))))] (List.map kI.enc [a0,(⟨⟨⟨false,[]⟩,0⟩,a1⟩:AI)]) rfl underlying104 ze34 si34 rfl rfl rfl (by decide) (by decide) (by decide) rfl rfl (Kd.even _) rfl) rfl rfl rfl ?_
 refine .bind fun x8 h1=>.w (cl (cv_fine_k h1) [0] [] [true] rfl (.p rfl<|.l<|.nil) (.p rfl (.i<|.i<|.nil) .nil) fnil (.cons (.v (.i<|.i<|.nil)) .nil) (.bool _) (.turned .nil) rfl)<|.p (un rfl)<|.nil<|.seq<|?_
 refine T.cond_p rfl iff_nb (fun h2 h3=>?_) (fun h2 h3=>?_)
 ·refine .seq<|.region<|.p (bd ze34 pl34 rfl)<|.n (sa ag34 rfl)<|.nil<|.seq<|.ret<|.seq_ret<|fin_1 (.inr rfl) (.k rfl (.nil _)) results35 (.a ag34 rfl) (AVle.refl _)
 ·refine .skip<|.seq<|.seq<|.draw mixed<|.p (mv rfl)<|.p (mv rfl)<|.p (fa 0 fl34_0 rfl)<|.p (la ag26 rfl)<|.p (la ag26 rfl)<|.bind fun x9 h4=>.p (c0 (dyad_Neg_p h4) rfl)<|.bind fun x10 h5=>.w (cl (cv_sum_k h5) [0] [] [true] rfl (.p rfl<|.a kD<|.a kD<|.nil) (.p rfl (.i<|.i<|.nil) .nil) fnil (.cons (.v (.i<|.i<|.nil)) .nil) (ren_agg (K:=kD) _) (.turned .nil) rfl)<|.bind fun x11 h6=>?_
  refine .w (cl (cv_down_k h6) [0] [] [true] rfl (.p rfl<|.a kD<|.nil) (.p rfl (.i<|.i<|.nil) .nil) fnil (.cons (.v (.i<|.i<|.nil)) .nil) (ren_agg (K:=kD) _) (.turned .nil) rfl)<|.w (al 4 ze26 rfl)<|.n (sa ag26 rfl)<|.nil (by kernel_rfl)<|.seq<|.seq<|.draw mixed<|.p (mv rfl)<|.p (la ag26 rfl)<|.p (mv rfl)<|.p (mv rfl)<|.p (fa 3 fl34_1 rfl)<|.p (la ag26 rfl)<|.p (la ag26 rfl)<|?_
  refine .bind fun x12 h7=>.w (cl (cv_sum_k h7) [0] [] [true] rfl (.p rfl<|.a kD<|.a kD<|.nil) (.p rfl (.i<|.i<|.nil) .nil) fnil (.cons (.v (.i<|.i<|.nil)) .nil) (ren_agg (K:=kD) _) (.turned .nil) rfl)<|.bind fun x13 h8=>.w (cl (cv_up_k h8) [0] [] [true] rfl (.p rfl<|.a kD<|.nil) (.p rfl (.i<|.i<|.nil) .nil) fnil (.cons (.v (.i<|.i<|.nil)) .nil) (ren_agg (K:=kD) _) (.turned .nil) rfl)<|.bind fun x14 h9=>.p (cl (cv_out_k h9) [0] [] [false] rfl (.p rfl<|.a kD<|.a kD<|.nil) (.p rfl (.i<|.i<|.nil) .nil) fnil (.cons (.v (.i<|.i<|.nil)) .nil) (ren_agg (K:=kI) _) (.kept rfl .nil) rfl)<|.n (sa ag34 rfl)<|.nil (by kernel_rfl)<|.seq<|.ret<|fin_1 (.inr rfl) (.k rfl (.nil _)) results35 (.a ag34 rfl) (AVle.refl _)
theorem cv_Wide_k {a0:AI} {a1:AD} {a2:Int} {a3:Int} {r:AI × Int} (h:cv_Wide a0 a1 a2 a3=some r):Cal Tryz.prog 35 [(.ptr 0 0),(.agg (kI.enc a0)),(.agg (kD.enc a1))] [(.live 45 [(.int .i64 a2),(.int .i64 a3)])] (.agg (kI.enc (⟨⟨(((r.1).Lo).M),((r.1).Lo).E⟩,⟨(((r.1).Hi).M),((r.1).Hi).E⟩⟩:AI))) [(.live 45 [(.int .i64 r.2),(.int .i64 a3)])]:=⟨⟨_,func35,nm35,rfl⟩,cv_Wide_c a0 a1 a2 a3 _ h⟩
theorem small_series_5374_c (a0:AI) (a1:Int) (a2:Int) (a3:Bool) (a4:List Int) (a5:Int) (a6:Bool) (a7:List Int) (a8:Int):∀ r,small_series_5374 a0 a1 a2 a3 a4 a5 a6 a7 a8=some r→ACalls Tryz.prog 154 [(.ptr 0 0),(.agg (kI.enc a0)),(.fn 175 [] [(.ptr 1 0),(.ptr 2 0),(.ptr 3 0)])] (lw [(.live 45 [(.int .i64 a1),(.int .i64 a2)]),(.live 47 [(.fn 33 [(.ptr 0 0)] [])]),(.live 28 [(.ptr 0 0)]),(.live 34 [(.bool a3),(slK (kInt .u32) a4),(.int .i64 a5),(.bool a6),(slK (kInt .u32) a7),(.int .i64 a8)])]) (.agg (kI.enc (⟨⟨(((r.1).Lo).M),((r.1).Lo).E⟩,⟨(((r.1).Hi).M),((r.1).Hi).E⟩⟩:AI))) (ld [(.live 45 [(.int .i64 r.2),(.int .i64 a2)]),(.live 47 [(.fn 33 [(.ptr 0 0)] [])]),(.live 28 [(.ptr 0 0)]),(.live 34 [(.bool a3),(slK (kInt .u32) a4),(.int .i64 a5),(.bool a6),(slK (kInt .u32) a7),(.int .i64 a8)])]):=by
 unfold small_series_5374
 refine go 4 func154 ntmps154 rfl ?_
 intro E hE
 refine .seq<|.region<|.w (bx 4 rfl)<|.w (al 5 ze34 rfl)<|.nil<|.seq<|.seq<|.draw mixed<|.p (la ag34 rfl)<|.p (la ag34 rfl)<|.w (al 6 ze34 rfl)<|.w (al 7 ze34 rfl)<|.n (sa ag34 rfl)<|.n (sa ag34 rfl)<|?_
 refine .nil (by kernel_rfl)<|.seq<|.seq<|.seq<|.region<|.p (mv rfl)<|.bind fun x93 h1=>.p (cl (cv_Prec_k h1) [0] [] [false] rfl (.p rfl<|.nil) (.p rfl (.i<|.i<|.nil) .nil) fnil (.cons (.v (.i<|.i<|.nil)) .nil) (.int _ _) (.kept rfl .nil) rfl)<|.bind fun x94 h2=>.p (c0 (small_Terms_p h2) rfl)<|.p (mv rfl)<|.nil<|.seq<|?_
 refine T.cut (X:=Int × Bool × (List Int) × Int × Bool × (List Int) × Int) (fun x=>small_series_5374_j1 a2 x.1 x.2.1 x.2.2.1 x.2.2.2.1 x.2.2.2.2.1 x.2.2.2.2.2.1 x.2.2.2.2.2.2) (fun x=>(mkS [(0,some (.ptr 0 0)),(6,some (.ptr 5 0)),(7,some (.ptr 6 0))] [(0,(.live 45 [(.int .i64 x.1),(.int .i64 a2)])),(1,(.live 47 [(.fn 33 [(.ptr 0 0)] [])])),(2,(.live 28 [(.ptr 0 0)])),(3,(.live 34 [(.bool a3),(slK (kInt .u32) a4),(.int .i64 a5),(.bool a6),(slK (kInt .u32) a7),(.int .i64 a8)])),(5,(.live 34 [(.bool false),(slK (kInt .u32) []),(.int .i64 0),(.bool false),(slK (kInt .u32) []),(.int .i64 0)])),(6,(.live 34 [(.bool x.2.1),(slK (kInt .u32) x.2.2.1),(.int .i64 x.2.2.2.1),(.bool x.2.2.2.2.1),(slK (kInt .u32) x.2.2.2.2.2.1),(.int .i64 x.2.2.2.2.2.2)]))])) ?_ ?_
 ·rintro ⟨y135,y136,y137,y138,y139,y140,y141⟩
  dsimp only [small_series_5374_j1]
  refine .seq<|.seq<|.draw mixed<|.p (mv rfl)<|.p (la ag34 rfl)<|.p (mv rfl)<|.bind fun x142 h21=>.p (cl (cv_Prec_k h21) [0] [] [false] rfl (.p rfl<|.nil) (.p rfl (.i<|.i<|.nil) .nil) fnil (.cons (.v (.i<|.i<|.nil)) .nil) (.int _ _) (.kept rfl .nil) rfl)<|.p (un rfl)<|.bind fun x143 h22=>.p (c0 (dyad_Half_p h22) rfl)<|.bind fun x144 h23=>.w (cl (cv_Wide_k h23) [0] [] [true] rfl (.p rfl<|.a kI<|.a kD<|.nil) (.p rfl (.i<|.i<|.nil) .nil) fnil (.cons (.v (.i<|.i<|.nil)) .nil) (ren_agg (K:=kI) _) (.turned .nil) rfl)<|.n (sa ag34 rfl)<|?_
  refine .nil (by kernel_rfl)<|.seq<|.ret<|fin_1 (.inr rfl) (.k rfl (.k rfl (.k rfl (.k rfl (.nil _))))) results154 (.a ag34 rfl) (AVle.refl _)
 ·intro h24
  refine .block<|.loopW (X:=Int × Int × Bool × (List Int) × Int × Bool × (List Int) × Int × Bool × (List Int) × Int × Bool × (List Int) × Int) (fun n x=>small_series_5374_l2 x94 a2 a3 a4 a5 a6 a7 a8 n x.1 x.2.1 x.2.2.1 x.2.2.2.1 x.2.2.2.2.1 x.2.2.2.2.2.1 x.2.2.2.2.2.2.1 x.2.2.2.2.2.2.2.1 x.2.2.2.2.2.2.2.2.1 x.2.2.2.2.2.2.2.2.2.1 x.2.2.2.2.2.2.2.2.2.2.1 x.2.2.2.2.2.2.2.2.2.2.2.1 x.2.2.2.2.2.2.2.2.2.2.2.2.1 x.2.2.2.2.2.2.2.2.2.2.2.2.2) (fun x=>(mkS [(0,some (.ptr 0 0)),(2,some (.fn 175 [] [(.ptr 1 0),(.ptr 2 0),(.ptr 3 0)])),(6,some (.ptr 5 0)),(7,some (.ptr 6 0)),(8,some (.ptr 7 0)),(15,some (.int .i64 x94)),(16,some (.int .i64 x.1))] [(0,(.live 45 [(.int .i64 x.2.1),(.int .i64 a2)])),(1,(.live 47 [(.fn 33 [(.ptr 0 0)] [])])),(2,(.live 28 [(.ptr 0 0)])),(3,(.live 34 [(.bool a3),(slK (kInt .u32) a4),(.int .i64 a5),(.bool a6),(slK (kInt .u32) a7),(.int .i64 a8)])),(5,(.live 34 [(.bool false),(slK (kInt .u32) []),(.int .i64 0),(.bool false),(slK (kInt .u32) []),(.int .i64 0)])),(6,(.live 34 [(.bool x.2.2.1),(slK (kInt .u32) x.2.2.2.1),(.int .i64 x.2.2.2.2.1),(.bool x.2.2.2.2.2.1),(slK (kInt .u32) x.2.2.2.2.2.2.1),(.int .i64 x.2.2.2.2.2.2.2.1)])),(7,(.live 34 [(.bool x.2.2.2.2.2.2.2.2.1),(slK (kInt .u32) x.2.2.2.2.2.2.2.2.2.1),(.int .i64 x.2.2.2.2.2.2.2.2.2.2.1),(.bool x.2.2.2.2.2.2.2.2.2.2.2.1),(slK (kInt .u32) x.2.2.2.2.2.2.2.2.2.2.2.2.1),(.int .i64 x.2.2.2.2.2.2.2.2.2.2.2.2.2)]))])) (0,a1,a0.Lo.M.Neg,a0.Lo.M.Mag,a0.Lo.E,a0.Hi.M.Neg,a0.Hi.M.Mag,a0.Hi.E,a0.Lo.M.Neg,a0.Lo.M.Mag,a0.Lo.E,a0.Hi.M.Neg,a0.Hi.M.Mag,a0.Hi.E) (jn (m:=4) [(0,0),(1,1),(2,2),(3,3),(5,5),(6,6),(7,7)] hE (.p rfl rfl<|.g rfl (ren_fnL _ .nil (.p rfl<|.p rfl<|.p rfl<|.nil))<|.p rfl rfl<|.p rfl rfl<|.p rfl rfl<|.i rfl<|.i rfl<|.nil) (.v rfl (.i<|.i<|.nil)<|.v rfl (.cons (ren_fnL _ (.p rfl<|.nil) .nil)<|.nil)<|.v rfl (.p rfl<|.nil)<|.v rfl (.b<|.l<|.i<|.b<|.l<|.i<|.nil)<|.v rfl (.b<|.l<|.i<|.b<|.l<|.i<|.nil)<|.v rfl (.b<|.l<|.i<|.b<|.l<|.i<|.nil)<|.v rfl (.b<|.l<|.i<|.b<|.l<|.i<|.nil)<|.nil) rfl) (fun _=>rfl) rfl<|?_
  rintro n2 ⟨y167,y168,y169,y170,y171,y172,y173,y174,y175,y176,y177,y178,y179,y180⟩
  try dsimp only
  rw [small_series_5374_l2]
  refine .seq<|.region<|.p (ar rfl)<|.nil<|.seq<|.seq<|?_
  refine T.cond_p rfl iff_dec (fun h37 h38=>?_) (fun h37 h38=>?_)
  ·refine .skip<|.seq<|.seq<|.block<|.seq<|.region<|.p (mv rfl)<|.p (sg rfl)<|.nil<|.seq<|.seq<|.region<|.w (al 8 ze34 rfl)<|.nil<|?_
   refine .seq<|.seq<|.region<|.p (mv rfl)<|.p (mv rfl)<|.p (ar rfl)<|.p (la ag34 rfl)<|.bind fun x183 h41=>.w (cl (small_odd_1_df97_k h41) [1,0,2,3] [] [false,true,false,false] rfl (.i<|.a kI<|.p rfl<|.p rfl<|.p rfl<|.nil) (.p rfl (.cons (ren_fnL _ (.p rfl<|.nil) .nil)<|.nil) (.p rfl (.i<|.i<|.nil) (.p rfl (.p rfl<|.nil) (.p rfl (.b<|.l<|.i<|.b<|.l<|.i<|.nil) .nil)))) fnil (.cons (.v (.cons (ren_fnL _ (.p rfl<|.nil) .nil)<|.nil)) (.cons (.v (.i<|.i<|.nil)) (.cons (.v (.p rfl<|.nil)) (.cons (.v (.b<|.l<|.i<|.b<|.l<|.i<|.nil)) .nil)))) (ren_tupL (.a kI<|.a kI<|.nil)) (.kept rfl (.turned (.kept rfl (.kept rfl .nil)))) rfl)<|.p (mv rfl)<|.p (xt rfl)<|.p (xt rfl)<|.n (sa ag34 rfl)<|.n (sa ag34 rfl)<|?_
   refine .nil<|.seq<|.region<|.p (mv rfl)<|.p (la ag34 rfl)<|.p (la ag34 rfl)<|.bind fun x184 h42=>.w (cl (cv_Add_k h42) [0] [] [true] rfl (.p rfl<|.a kI<|.a kI<|.nil) (.p rfl (.i<|.i<|.nil) .nil) fnil (.cons (.v (.i<|.i<|.nil)) .nil) (ren_agg (K:=kI) _) (.turned .nil) rfl)<|.n (sa ag34 rfl)<|.nil<|.block<|.seq<|.region<|.p (ar rfl)<|?_
   refine .p (mv rfl)<|.nil<|.again ((IntKind.i64.wrap (y167+1)),x184.2,(((x184.1).Lo).M).Neg,(((x184.1).Lo).M).Mag,((x184.1).Lo).E,(((x184.1).Hi).M).Neg,(((x184.1).Hi).M).Mag,((x184.1).Hi).E,(((x183.1).Lo).M).Neg,(((x183.1).Lo).M).Mag,((x183.1).Lo).E,(((x183.1).Hi).M).Neg,(((x183.1).Hi).M).Mag,((x183.1).Hi).E) (jn (m:=4) [(0,0),(1,1),(2,2),(3,3),(5,5),(6,6),(7,7)] hE (.p rfl rfl<|.g rfl (ren_fnL _ .nil (.p rfl<|.p rfl<|.p rfl<|.nil))<|.p rfl rfl<|.p rfl rfl<|.p rfl rfl<|.i rfl<|.i rfl<|.nil) (.v rfl (.i<|.i<|.nil)<|.v rfl (.cons (ren_fnL _ (.p rfl<|.nil) .nil)<|.nil)<|.v rfl (.p rfl<|.nil)<|.v rfl (.b<|.l<|.i<|.b<|.l<|.i<|.nil)<|.v rfl (.b<|.l<|.i<|.b<|.l<|.i<|.nil)<|.v rfl (.b<|.l<|.i<|.b<|.l<|.i<|.nil)<|.v rfl (.b<|.l<|.i<|.b<|.l<|.i<|.nil)<|.nil) rfl) rfl
  ·refine .exit<|.seq_exit<|.loop_exit<|.block_exit<|.weak (h24 (y168,y169,y170,y171,y172,y173,y174)) (jn (m:=4) [(0,0),(1,1),(2,2),(3,3),(5,5),(6,6)] hE (.p rfl rfl<|.p rfl rfl<|.p rfl rfl<|.nil) (.v rfl (.i<|.i<|.nil)<|.v rfl (.cons (ren_fnL _ (.p rfl<|.nil) .nil)<|.nil)<|.v rfl (.p rfl<|.nil)<|.v rfl (.b<|.l<|.i<|.b<|.l<|.i<|.nil)<|.v rfl (.b<|.l<|.i<|.b<|.l<|.i<|.nil)<|.v rfl (.b<|.l<|.i<|.b<|.l<|.i<|.nil)<|.nil) rfl)
theorem small_series_5374_k {a0:AI} {a1:Int} {a2:Int} {a3:Bool} {a4:List Int} {a5:Int} {a6:Bool} {a7:List Int} {a8:Int} {r:AI × Int} (h:small_series_5374 a0 a1 a2 a3 a4 a5 a6 a7 a8=some r):Cal Tryz.prog 154 [(.ptr 0 0),(.agg (kI.enc a0)),(.fn 175 [] [(.ptr 1 0),(.ptr 2 0),(.ptr 3 0)])] [(.live 45 [(.int .i64 a1),(.int .i64 a2)]),(.live 47 [(.fn 33 [(.ptr 0 0)] [])]),(.live 28 [(.ptr 0 0)]),(.live 34 [(.bool a3),(slK (kInt .u32) a4),(.int .i64 a5),(.bool a6),(slK (kInt .u32) a7),(.int .i64 a8)])] (.agg (kI.enc (⟨⟨(((r.1).Lo).M),((r.1).Lo).E⟩,⟨(((r.1).Hi).M),((r.1).Hi).E⟩⟩:AI))) [(.live 45 [(.int .i64 r.2),(.int .i64 a2)]),(.live 47 [(.fn 33 [(.ptr 0 0)] [])]),(.live 28 [(.ptr 0 0)]),(.live 34 [(.bool a3),(slK (kInt .u32) a4),(.int .i64 a5),(.bool a6),(slK (kInt .u32) a7),(.int .i64 a8)])]:=⟨⟨_,func154,nm154,rfl⟩,small_series_5374_c a0 a1 a2 a3 a4 a5 a6 a7 a8 _ h⟩
theorem small_odd_8ed8_c (a0:AI) (a1:Int) (a2:Int):∀ r,small_odd_8ed8 a0 a1 a2=some r→ACalls Tryz.prog 119 [(.ptr 0 0),(.agg (kI.enc a0)),(.fn 33 [(.ptr 0 0)] [])] (lw [(.live 45 [(.int .i64 a1),(.int .i64 a2)])]) (.agg (kI.enc (⟨⟨(((r.1).Lo).M),((r.1).Lo).E⟩,⟨(((r.1).Hi).M),((r.1).Hi).E⟩⟩:AI))) (ld [(.live 45 [(.int .i64 r.2),(.int .i64 a2)])]):=by
 unfold small_odd_8ed8
 refine go 1 func119 ntmps119 rfl ?_
 intro E hE
 refine .seq<|.region<|.w (bx 1 rfl)<|.w (bx 2 rfl)<|.w (bx 3 rfl)<|.w (al 4 ze34 rfl)<|.nil<|.seq<|.seq<|.seq<|.region<|.p (ls sc28 rfl)<|.p (la ag34 rfl)<|.bind fun x4 h1=>?_
 refine .w (cl (small_in_k h1) [0] [] [true] rfl (.p rfl<|.a kI<|.i<|.nil) (.p rfl (.i<|.i<|.nil) .nil) fnil (.cons (.v (.i<|.i<|.nil)) .nil) (.bool _) (.turned .nil) rfl)<|.p (un rfl)<|.nil<|.seq<|?_
 refine T.cond_p rfl iff_nb (fun h2 h3=>?_) (fun h2 h3=>?_)
 ·refine .seq<|.region<|.p (bd ze34 pl34 rfl)<|.n (sa ag34 rfl)<|.nil<|.seq<|.ret<|.seq_ret<|fin_1 (.inr rfl) (.k rfl (.nil _)) results119 (.a ag34 rfl) (AVle.refl _)
 ·refine .skip<|.seq<|.seq<|.region<|.p (ls sc28 rfl)<|.p (la ag34 rfl)<|.p (la ag34 rfl)<|.bind fun x5 h4=>.w (cl (cv_Mul_k h4) [0] [] [true] rfl (.p rfl<|.a kI<|.a kI<|.nil) (.p rfl (.i<|.i<|.nil) .nil) fnil (.cons (.v (.i<|.i<|.nil)) .nil) (ren_agg (K:=kI) _) (.turned .nil) rfl)<|.w (al 5 ze34 rfl)<|.n (sa ag34 rfl)<|.nil<|.seq<|.seq<|?_
  refine .region<|.p (ls sc28 rfl)<|.p (la ag34 rfl)<|?_
  refine TR.st 19 (.fn 175 [] [(.ptr 3 0),(.ptr 1 0),(.ptr 5 0)]) [] (snd_makeFunc _ _ _ [] [(.ptr 3 0),(.ptr 1 0),(.ptr 5 0)] rfl rfl rfl rfl rfl) rfl rfl rfl ?_
  refine .bind fun x6 h5=>.w (cl (small_series_5374_k h5) [0,3,1,5] [] [true,false,false,false] rfl (.p rfl<|.a kI<|.cons (ren_fnL _ .nil (.p rfl<|.p rfl<|.p rfl<|.nil))<|.nil) (.p rfl (.i<|.i<|.nil) (.p rfl (.cons (ren_fnL _ (.p rfl<|.nil) .nil)<|.nil) (.p rfl (.p rfl<|.nil) (.p rfl (.b<|.l<|.i<|.b<|.l<|.i<|.nil) .nil)))) fnil (.cons (.v (.i<|.i<|.nil)) (.cons (.v (.cons (ren_fnL _ (.p rfl<|.nil) .nil)<|.nil)) (.cons (.v (.p rfl<|.nil)) (.cons (.v (.b<|.l<|.i<|.b<|.l<|.i<|.nil)) .nil)))) (ren_agg (K:=kI) _) (.turned (.kept rfl (.kept rfl (.kept rfl .nil)))) rfl)<|.n (sa ag34 rfl)<|.nil<|.seq<|.ret<|fin_1 (.inr rfl) (.k rfl (.nil _)) results119 (.a ag34 rfl) (AVle.refl _)
theorem small_odd_8ed8_k {a0:AI} {a1:Int} {a2:Int} {r:AI × Int} (h:small_odd_8ed8 a0 a1 a2=some r):Cal Tryz.prog 119 [(.ptr 0 0),(.agg (kI.enc a0)),(.fn 33 [(.ptr 0 0)] [])] [(.live 45 [(.int .i64 a1),(.int .i64 a2)])] (.agg (kI.enc (⟨⟨(((r.1).Lo).M),((r.1).Lo).E⟩,⟨(((r.1).Hi).M),((r.1).Hi).E⟩⟩:AI))) [(.live 45 [(.int .i64 r.2),(.int .i64 a2)])]:=⟨⟨_,func119,nm119,rfl⟩,small_odd_8ed8_c a0 a1 a2 _ h⟩
theorem small_Atan_c (a0:AI) (a1:Int) (a2:Int):∀ r,small_Atan a0 a1 a2=some r→ACalls Tryz.prog 52 [(.ptr 0 0),(.agg (kI.enc a0))] (lw [(.live 45 [(.int .i64 a1),(.int .i64 a2)])]) (.agg (kI.enc (⟨⟨(((r.1).Lo).M),((r.1).Lo).E⟩,⟨(((r.1).Hi).M),((r.1).Hi).E⟩⟩:AI))) (ld [(.live 45 [(.int .i64 r.2),(.int .i64 a2)])]):=by
 unfold small_Atan
 refine go 1 func52 ntmps52 rfl ?_
 intro E hE
 refine .seq<|.region<|.w (bx 1 rfl)<|.w (al 2 ze34 rfl)<|.nil<|.seq<|.seq<|.region<|.p (mv rfl)<|.p (la ag34 rfl)<|.p (mv rfl)<|?_
 refine TR.st 8 (.fn 33 [(.ptr 0 0)] []) [] (snd_makeFunc _ _ _ [(.ptr 0 0)] [] rfl rfl rfl rfl rfl) rfl rfl rfl ?_
 refine .bind fun x2 h1=>.w (cl (small_odd_8ed8_k h1) [0] [] [true] rfl (.p rfl<|.a kI<|.cons (ren_fnL _ (.p rfl<|.nil) .nil)<|.nil) (.p rfl (.i<|.i<|.nil) .nil) fnil (.cons (.v (.i<|.i<|.nil)) .nil) (ren_agg (K:=kI) _) (.turned .nil) rfl)<|.n (sa ag34 rfl)<|.nil<|.seq<|.ret<|fin_1 (.inr rfl) (.k rfl (.nil _)) results52 (.a ag34 rfl) (AVle.refl _)
theorem small_Atan_k {a0:AI} {a1:Int} {a2:Int} {r:AI × Int} (h:small_Atan a0 a1 a2=some r):Cal Tryz.prog 52 [(.ptr 0 0),(.agg (kI.enc a0))] [(.live 45 [(.int .i64 a1),(.int .i64 a2)])] (.agg (kI.enc (⟨⟨(((r.1).Lo).M),((r.1).Lo).E⟩,⟨(((r.1).Hi).M),((r.1).Hi).E⟩⟩:AI))) [(.live 45 [(.int .i64 r.2),(.int .i64 a2)])]:=⟨⟨_,func52,nm52,rfl⟩,small_Atan_c a0 a1 a2 _ h⟩
theorem dyad_Scale_c (a0:AD) (a1:Int):∀ r,dyad_Scale a0 a1=some r→ACalls Tryz.prog 75 [(.agg (kD.enc a0)),(.int .i64 a1)] (lw []) (.tup [(.agg (kD.enc (⟨((r.1).M),(r.1).E⟩:AD))),(.int .i64 r.2)]) (ld []):=by
 unfold dyad_Scale
 refine go 0 func75 ntmps75 rfl ?_
 intro E hE
 refine .seq<|.region<|.w (bx 0 rfl)<|.w (al 1 ze26 rfl)<|.p (sg rfl)<|.nil<|.seq<|.seq<|.region<|.p (bd ze85 pl85 rfl)<|.w (bx 2 rfl)<|.p (sg rfl)<|.nil<|.seq<|?_
 refine .seq<|.seq<|?_
 refine T.cut (X:=Bool × Int) (fun x=>dyad_Scale_j1 a0 a1 x.1 x.2) (fun x=>(mkS [(1,some (.int .i64 a1)),(2,some (.ptr 0 0)),(4,some (.ptr 1 0)),(6,some (.ptr 2 0)),(25,some (.bool x.1))] [(0,(.live 26 [(.bool a0.M.Neg),(slK (kInt .u32) a0.M.Mag),(.int .i64 a0.E)])),(1,(.live 26 [(.bool false),(slK (kInt .u32) []),(.int .i64 0)])),(2,(.live 85 [(.int .i64 x.2),(.bool false),(slK (kInt .u32) []),(.int .i64 0)]))])) ?_ ?_
 ·rintro ⟨y19,y20⟩
  dsimp only [dyad_Scale_j1]
  refine .seq<|?_
  refine T.cut (X:=Bool × (List Int) × Int) (fun x=>dyad_Scale_j2 y20 x.1 x.2.1 x.2.2) (fun x=>(mkS [(4,some (.ptr 1 0)),(6,some (.ptr 2 0))] [(1,(.live 26 [(.bool false),(slK (kInt .u32) []),(.int .i64 0)])),(2,(.live 85 [(.int .i64 y20),(.bool x.1),(slK (kInt .u32) x.2.1),(.int .i64 x.2.2)]))])) ?_ ?_
  ·rintro ⟨y21,y22,y23⟩
   dsimp only [dyad_Scale_j2]
   refine .seq<|.seq<|.region<|.p (mv rfl)<|.bind fun x24 h9=>.w (cl (dw_told_k h9) [2] [] [true] rfl (.p rfl<|.nil) (.p rfl (.i<|.b<|.l<|.i<|.nil) .nil) fnil (.cons (.v (.i<|.b<|.l<|.i<|.nil)) .nil) (ren_tupL (.a kD<|.i<|.nil)) (.turned .nil) rfl)<|.p (xt rfl)<|.p (xt rfl)<|.n (sa ag26 rfl)<|.p (sg rfl)<|.nil<|.seq<|.ret<|fin_2 (.inr rfl) (.nil _) results75 (.a ag26 rfl) (.t rfl) (AVle.refl _)
  ·intro h10
   refine T.cond_p rfl iff_b (fun h11 h12=>?_) (fun h11 h12=>?_)
   ·refine .region<|.p (mv rfl)<|.p (fa 0 fl26_0 rfl)<|.p (la ag24 rfl)<|.p (fa 2 fl26_1 rfl)<|.p (ls sc3 rfl)<|.p (mv rfl)<|.p (ar rfl)<|.p (bd ze26 pl26 rfl)<|.p (nc rfl)<|.p (fa 1 fl85_1 rfl)<|.n (sa ag26 rfl)<|.nil<|.weak (h10 (a0.M.Neg,a0.M.Mag,(IntKind.i64.wrap (a0.E+a1)))) (jn (m:=0) [(1,1),(2,2)] hE (.p rfl rfl<|.p rfl rfl<|.nil) (.v rfl (.b<|.l<|.i<|.nil)<|.v rfl (.i<|.b<|.l<|.i<|.nil)<|.nil) rfl)
   ·refine .skip<|.weak (h10 (false,[],0)) (jn (m:=0) [(1,1),(2,2)] hE (.p rfl rfl<|.p rfl rfl<|.nil) (.v rfl (.b<|.l<|.i<|.nil)<|.v rfl (.i<|.b<|.l<|.i<|.nil)<|.nil) rfl)
 ·intro h13
  refine .draw mixed<|.p (mv rfl)<|.p (la ag26 rfl)<|?_
  refine TD.st 11 (slK kD [a0]) [] (snd_buildSlice _ _ _ 3 _ _ [(0,(.agg (kD.enc a0)))] (List.map kD.enc [a0]) rfl underlying96 ze26 si26 rfl rfl rfl (by decide) (by decide) (by decide) rfl rfl (Kd.even _) rfl) rfl rfl rfl ?_
  refine .bind fun x25 h14=>.w (cl (dw_right_k h14) [2] [] [true] rfl (.p rfl<|.l<|.nil) (.p rfl (.i<|.b<|.l<|.i<|.nil) .nil) fnil (.cons (.v (.i<|.b<|.l<|.i<|.nil)) .nil) (.bool _) (.turned .nil) rfl)<|.p (mv rfl)<|?_
  refine TD.gd 13 _ rfl iff_b (fun h15=>?_) (fun h15=>?_)
  ·refine .p (mv rfl)<|.p (nc rfl)<|.p (fa 0 fl85_0 rfl)<|.p (mv rfl)<|.bind fun x26 h16=>.p (c0 (dyad_within_p h16) rfl)<|.bind fun x27 h17=>.w (cl (dyad_fault_must_k h17) [2] [] [true] rfl (.p rfl<|.b<|.i<|.nil) (.p rfl (.i<|.b<|.l<|.i<|.nil) .nil) fnil (.cons (.v (.i<|.b<|.l<|.i<|.nil)) .nil) (.bool _) (.turned .nil) rfl)<|.p (pt rfl)<|.p (mv rfl)<|?_
   refine TD.gd 21 _ rfl iff_b (fun h18=>?_) (fun h18=>?_)
   ·refine .p (la ag26 rfl)<|.bind fun x28 h19=>.p (c0 (dyad_zero_p h19) rfl)<|.p (un rfl)<|.p (pt rfl)<|.nil (by kernel_rfl)<|.weak (h13 ((!x28),x27.2)) (jn (m:=0) [(0,0),(1,1),(2,2)] hE (.i rfl<|.p rfl rfl<|.p rfl rfl<|.p rfl rfl<|.b rfl<|.nil) (.v rfl (.b<|.l<|.i<|.nil)<|.v rfl (.b<|.l<|.i<|.nil)<|.v rfl (.i<|.b<|.l<|.i<|.nil)<|.nil) rfl)
   ·refine .k rfl<|.k rfl<|.k rfl<|.p (pf rfl)<|.nil (by kernel_rfl)<|.weak (h13 (false,x27.2)) (jn (m:=0) [(0,0),(1,1),(2,2)] hE (.i rfl<|.p rfl rfl<|.p rfl rfl<|.p rfl rfl<|.b rfl<|.nil) (.v rfl (.b<|.l<|.i<|.nil)<|.v rfl (.b<|.l<|.i<|.nil)<|.v rfl (.i<|.b<|.l<|.i<|.nil)<|.nil) rfl)
  ·refine .k rfl<|.k rfl<|.k rfl<|.k rfl<|.k rfl<|.k rfl<|.p (pf rfl)<|.p (mv rfl)<|.k rfl<|.k rfl<|.k rfl<|.p (pf rfl)<|.nil (by kernel_rfl)<|.weak (h13 (false,x25.2)) (jn (m:=0) [(0,0),(1,1),(2,2)] hE (.i rfl<|.p rfl rfl<|.p rfl rfl<|.p rfl rfl<|.b rfl<|.nil) (.v rfl (.b<|.l<|.i<|.nil)<|.v rfl (.b<|.l<|.i<|.nil)<|.v rfl (.i<|.b<|.l<|.i<|.nil)<|.nil) rfl)
theorem dyad_Scale_p {a0:AD} {a1:Int} {r:AD × Int} (h:dyad_Scale a0 a1=some r):Pur Tryz.prog 75 [(.agg (kD.enc a0)),(.int .i64 a1)] (.tup [(.agg (kD.enc (⟨((r.1).M),(r.1).E⟩:AD))),(.int .i64 r.2)]):=⟨⟨_,func75,nm75,rfl⟩,dyad_Scale_c a0 a1 _ h,fun _=>(.a kD<|.i<|.nil),fun _=>(ren_tupL (.a kD<|.i<|.nil))⟩
theorem cv_Scale_c (a0:AI) (a1:Int) (a2:Int) (a3:Int):∀ r,cv_Scale a0 a1 a2 a3=some r→ACalls Tryz.prog 58 [(.ptr 0 0),(.agg (kI.enc a0)),(.int .i64 a1)] (lw [(.live 45 [(.int .i64 a2),(.int .i64 a3)])]) (.agg (kI.enc (⟨⟨(((r.1).Lo).M),((r.1).Lo).E⟩,⟨(((r.1).Hi).M),((r.1).Hi).E⟩⟩:AI))) (ld [(.live 45 [(.int .i64 r.2),(.int .i64 a3)])]):=by
 unfold cv_Scale
 refine go 1 func58 ntmps58 rfl ?_
 intro E hE
 refine .seq<|.region<|.w (bx 1 rfl)<|.w (al 2 ze34 rfl)<|.nil<|.seq<|.seq<|.seq<|.region<|.p (mv rfl)<|.p (la ag34 rfl)<|?_
 refine TR.st 10 (slK kI [a0]) [] (snd_buildSlice _ _ _ 6 _ _ [(0,(.agg (kI.enc a0)))] (List.map kI.enc [a0]) rfl underlying104 ze34 si34 rfl rfl rfl (by decide) (by decide) (by decide) rfl rfl (Kd.even _) rfl) rfl rfl rfl ?_
 refine .bind fun x7 h1=>.w (cl (cv_fine_k h1) [0] [] [true] rfl (.p rfl<|.l<|.nil) (.p rfl (.i<|.i<|.nil) .nil) fnil (.cons (.v (.i<|.i<|.nil)) .nil) (.bool _) (.turned .nil) rfl)<|.p (un rfl)<|.nil<|.seq<|?_
 refine T.cond_p rfl iff_nb (fun h2 h3=>?_) (fun h2 h3=>?_)
 ·refine .seq<|.region<|.p (bd ze34 pl34 rfl)<|.n (sa ag34 rfl)<|.nil<|.seq<|.ret<|.seq_ret<|fin_1 (.inr rfl) (.k rfl (.nil _)) results58 (.a ag34 rfl) (AVle.refl _)
 ·refine .skip<|.seq<|.seq<|.region<|.p (mv rfl)<|.p (fa 0 fl34_0 rfl)<|.p (la ag26 rfl)<|.p (mv rfl)<|.bind fun x8 h4=>.p (c0 (dyad_Scale_p h4) rfl)<|.p (xt rfl)<|.p (xt rfl)<|.bind fun x9 h5=>.w (cl (cv_take_k h5) [0] [] [true] rfl (.p rfl<|.a kD<|.i<|.nil) (.p rfl (.i<|.i<|.nil) .nil) fnil (.cons (.v (.i<|.i<|.nil)) .nil) (ren_agg (K:=kD) _) (.turned .nil) rfl)<|?_
  refine .w (al 3 ze26 rfl)<|.n (sa ag26 rfl)<|.nil<|.seq<|.seq<|.seq<|.region<|.p (mv rfl)<|.p (nc rfl)<|.p (fa 0 fl45_0 rfl)<|.p (fa 0 fl43_0 rfl)<|.p (ls sc29 rfl)<|.p (ar rfl)<|.nil<|?_
  refine .seq<|?_
  refine T.cond_p rfl iff_ne (fun h6 h7=>?_) (fun h6 h7=>?_)
  ·refine .seq<|.region<|.p (bd ze34 pl34 rfl)<|.n (sa ag34 rfl)<|.nil<|.seq<|.ret<|.seq_ret<|fin_1 (.inr rfl) (.k rfl (.nil _)) results58 (.a ag34 rfl) (AVle.refl _)
  ·refine .skip<|.seq<|.seq<|.draw mixed<|.p (mv rfl)<|.p (la ag26 rfl)<|.p (mv rfl)<|.p (fa 3 fl34_1 rfl)<|.p (la ag26 rfl)<|.p (mv rfl)<|.bind fun x10 h8=>.p (c0 (dyad_Scale_p h8) rfl)<|.p (xt rfl)<|.p (xt rfl)<|?_
   refine .bind fun x11 h9=>.w (cl (cv_take_k h9) [0] [] [true] rfl (.p rfl<|.a kD<|.i<|.nil) (.p rfl (.i<|.i<|.nil) .nil) fnil (.cons (.v (.i<|.i<|.nil)) .nil) (ren_agg (K:=kD) _) (.turned .nil) rfl)<|.bind fun x12 h10=>.p (cl (cv_out_k h10) [0] [] [false] rfl (.p rfl<|.a kD<|.a kD<|.nil) (.p rfl (.i<|.i<|.nil) .nil) fnil (.cons (.v (.i<|.i<|.nil)) .nil) (ren_agg (K:=kI) _) (.kept rfl .nil) rfl)<|.n (sa ag34 rfl)<|.nil (by kernel_rfl)<|.seq<|.ret<|fin_1 (.inr rfl) (.k rfl (.nil _)) results58 (.a ag34 rfl) (AVle.refl _)
theorem cv_Scale_k {a0:AI} {a1:Int} {a2:Int} {a3:Int} {r:AI × Int} (h:cv_Scale a0 a1 a2 a3=some r):Cal Tryz.prog 58 [(.ptr 0 0),(.agg (kI.enc a0)),(.int .i64 a1)] [(.live 45 [(.int .i64 a2),(.int .i64 a3)])] (.agg (kI.enc (⟨⟨(((r.1).Lo).M),((r.1).Lo).E⟩,⟨(((r.1).Hi).M),((r.1).Hi).E⟩⟩:AI))) [(.live 45 [(.int .i64 r.2),(.int .i64 a3)])]:=⟨⟨_,func58,nm58,rfl⟩,cv_Scale_c a0 a1 a2 a3 _ h⟩
theorem konst_parts_3d9d_c (a0:Int) (a1:Int) (a2:Int) (a3:Int) (a4:Int) (a5:Int):∀ r,konst_parts_3d9d a0 a1 a2 a3 a4 a5=some r→ACalls Tryz.prog 124 [(.ptr 0 0),(.sl [[(.fn 52 [] []),(.int .i64 a0),(.int .i64 a1)],[(.fn 52 [] []),(.int .i64 a2),(.int .i64 a3)]])] (lw [(.live 45 [(.int .i64 a4),(.int .i64 a5)])]) (slK kI r.1) (ld [(.live 45 [(.int .i64 r.2),(.int .i64 a5)])]):=by
 unfold konst_parts_3d9d
 refine go 1 func124 ntmps124 rfl ?_
 intro E hE
 refine .seq<|.region<|.p (sg rfl)<|.nil<|.seq<|.seq<|.region<|.p (sg rfl)<|.nil<|.seq<|.seq<|.seq<|.region<|.p (mv rfl)<|?_
 refine TR.st 11 (.int .i64 2) [] (snd_len _ _ _ _ _ rfl underlying154 rfl rfl rfl rfl) rfl rfl rfl ?_
 refine .p (mv rfl)<|.nil<|.seq<|?_
 refine T.cut (X:=Int × (List AI)) (fun x=>konst_parts_3d9d_j1 a1 a5 a3 x.1 x.2) (fun x=>(mkS [(0,some (.ptr 0 0)),(1,some (.sl [[(.fn 52 [] []),(.int .i64 a0),(.int .i64 a1)],[(.fn 52 [] []),(.int .i64 a2),(.int .i64 a3)]])),(5,some (grA kI 1 x.2))] [(0,(.live 45 [(.int .i64 x.1),(.int .i64 a5)])),(1,(grV kI 34 x.2))])) ?_ ?_
 ·rintro ⟨y195,y196⟩
  dsimp only [konst_parts_3d9d_j1]
  refine .seq<|.seq<|.seq<|.region<|.p (mv rfl)<|?_
  refine TR.st 33 (.int .i64 2) [] (snd_len _ _ _ _ _ rfl underlying154 rfl rfl rfl rfl) rfl rfl rfl ?_
  refine .p (mv rfl)<|.nil<|.seq<|?_
  refine T.cut (X:=Int × (List AI)) (fun x=>konst_parts_3d9d_j2 x.1 x.2) (fun x=>(mkS [(5,some (grA kI 1 x.2))] [(0,(.live 45 [(.int .i64 x.1),(.int .i64 a5)])),(1,(grV kI 34 x.2))])) ?_ ?_
  ·rintro ⟨y217,y218⟩
   dsimp only [konst_parts_3d9d_j2]
   refine .seq<|.seq<|.region<|.p (mv rfl)<|.p (sg rfl)<|.nil<|.seq<|.ret<|?_
   refine TQ.weak ?_ (fun a w h=>Conc.gr_still kI h 4 1 34 y218 rfl rfl)
   exact fin_1 (.inr rfl) (.k rfl (.nil _)) results124 (.t rfl) (AVle.refl _)
  ·intro h115
   refine .block<|.loopW (X:=Int × Int × (List AI)) (fun n x=>konst_parts_3d9d_l3 a1 a5 a3 n x.1 x.2.1 x.2.2) (fun x=>(mkS [(0,some (.ptr 0 0)),(5,some (grA kI 1 x.2.2)),(32,some (.sl [[(.fn 52 [] []),(.int .i64 a0),(.int .i64 a1)],[(.fn 52 [] []),(.int .i64 a2),(.int .i64 a3)]])),(33,some (.int .i64 2)),(34,some (.int .i64 x.1))] [(0,(.live 45 [(.int .i64 x.2.1),(.int .i64 a5)])),(1,(grV kI 34 x.2.2))])) (0,y195,y196) (jn (m:=1) [(0,0),(1,1)] hE (.p rfl rfl<|.g rfl (ren_gr (K:=kI) (by rfl) y196)<|.g rfl (ren_slL (.cons (.cons (ren_fnL _ .nil .nil)<|.i<|.i<|.nil) (.cons (.cons (ren_fnL _ .nil .nil)<|.i<|.i<|.nil) .nil)))<|.i rfl<|.i rfl<|.nil) (.v rfl (.i<|.i<|.nil)<|.cons (.refl _) (renV_gr (K:=kI) 34 y196)<|.nil) rfl) (fun _=>rfl) rfl<|?_
   rintro n3 ⟨y230,y231,y232⟩
   try dsimp only
   rw [konst_parts_3d9d_l3]
   refine .seq<|.region<|.p (ar rfl)<|.nil<|.seq<|.seq<|?_
   refine T.cond_p rfl iff_dec (fun h146 h147=>?_) (fun h146 h147=>?_)
   ·refine .skip<|.seq<|.seq<|?_
    refine T.cut (X:=Int × (List AI)) (fun x=>konst_parts_3d9d_j4 (fun z0 z1 z2=>konst_parts_3d9d_l3 a1 a5 a3 n3 z0 z1 z2) y230 x.1 x.2) (fun x=>(mkS [(0,some (.ptr 0 0)),(5,some (.row 1 kI.sz 0 ((x.2).length))),(32,some (.sl [[(.fn 52 [] []),(.int .i64 a0),(.int .i64 a1)],[(.fn 52 [] []),(.int .i64 a2),(.int .i64 a3)]])),(33,some (.int .i64 2)),(34,some (.int .i64 y230))] [(0,(.live 45 [(.int .i64 x.1),(.int .i64 a5)])),(1,(rwK kI 34 x.2))])) ?_ ?_
    ·rintro ⟨y235,y236⟩
     dsimp only [konst_parts_3d9d_j4]
     refine .seq<|.region<|.p (ar rfl)<|.p (mv rfl)<|.nil<|.guard fun h158=>?_
     refine TQ.weak ?_ (fun a w h=>Conc.gr_row kI h 5 1 34 y236 rfl rfl (by first | omega | (simp only [List.length_append,List.length_cons,List.length_set]; omega) | simp))
     exact TQ.again ((IntKind.i64.wrap (y230+1)),y235,y236) (jn (m:=1) [(0,0),(1,1)] hE (.p rfl rfl<|.g rfl (ren_gr (K:=kI) (by rfl) y236)<|.g rfl (ren_slL (.cons (.cons (ren_fnL _ .nil .nil)<|.i<|.i<|.nil) (.cons (.cons (ren_fnL _ .nil .nil)<|.i<|.i<|.nil) .nil)))<|.i rfl<|.i rfl<|.nil) (.v rfl (.i<|.i<|.nil)<|.cons (.refl _) (renV_gr (K:=kI) 34 y236)<|.nil) rfl) rfl
    ·intro h159
     refine .block<|.seq<|.region<|.p (mv rfl)<|?_
     refine TR.ite (fun h160=>?_) (fun h160=>?_)
     ·refine TR.st 37 (.iptr [(.fn 52 [] []),(.int .i64 a0),(.int .i64 a1)]) [] (snd_index_at 0 _ _ _ _ _ _ _ _ rfl underlying154 si126 rfl rfl rfl rfl (by intro e he; simp at he; rcases he with rfl | rfl<;>rfl) rfl h160 rfl) rfl rfl rfl ?_
      refine .p (lai ag126 rfl)<|.w (al 2 ze126 rfl)<|.p (sg rfl)<|.n (sa ag126 rfl)<|.nil<|.seq<|.guard fun h161=>?_
      refine T.weak ?_ (fun a w h=>Conc.gr_open1 kI h 5 1 y232 (by omega) rfl)
      refine T.weak ?_ (fun a w h=>Conc.gr_openV kI h 1 34 y232 (by omega) rfl)
      refine .draw mixed<|.p (mv rfl)<|.p (mv rfl)<|.p (mv rfl)<|.p (mv rfl)<|.p (mv rfl)<|.guard fun h162=>?_
      obtain ⟨h1621,h1622⟩:=h162
      refine TD.st 44 (.rptr 1 kI.sz y230.toNat 0) [] (idx_r (snd_index_r _ _ _ _ _ 1 0 ((y232).length) _ y230 rfl underlying104 si34 rfl rfl rfl rfl h1621 (by omega)) (Nat.zero_add _)) rfl rfl rfl ?_
      refine TD.st 45 (.agg (kI.enc (⟨⟨((((y232).getD y230.toNat zAI).Lo).M),(((y232).getD y230.toNat zAI).Lo).E⟩,⟨((((y232).getD y230.toNat zAI).Hi).M),(((y232).getD y230.toNat zAI).Hi).E⟩⟩:AI))) [] (snd_loadK_agg kI _ _ 1 y230.toNat 0 6 _ _ rfl ag34 rfl rfl rfl rfl (by first | omega | (simp only [List.length_set]; omega)) (by decide)) rfl rfl rfl ?_
      refine .p (fa 2 fl126_2 rfl)<|.p (ls sc3 rfl)<|.bind fun x237 h163=>.w (cl (cv_Scale_k h163) [0] [] [true] rfl (.p rfl<|.a kI<|.i<|.nil) (.p rfl (.i<|.i<|.nil) .nil) fnil (.cons (.v (.i<|.i<|.nil)) .nil) (ren_agg (K:=kI) _) (.turned .nil) rfl)<|.guard fun h164=>?_
      obtain ⟨h1641,h1642⟩:=h164
      refine TD.st 49 (.rptr 1 kI.sz y230.toNat 0) [] (idx_r (snd_index_r _ _ _ _ _ 1 0 ((y232).length) _ y230 rfl underlying104 si34 rfl rfl rfl rfl h1641 (by omega)) (Nat.zero_add _)) rfl rfl rfl ?_
      refine TD.sn [(1,(rwK kI 34 ((y232).set y230.toNat (⟨⟨(((x237.1).Lo).M),((x237.1).Lo).E⟩,⟨(((x237.1).Hi).M),((x237.1).Hi).E⟩⟩:AI))))] (snd_storeK_agg kI _ _ _ 1 y230.toNat _ _ (⟨⟨(((x237.1).Lo).M),((x237.1).Lo).E⟩,⟨(((x237.1).Hi).M),((x237.1).Hi).E⟩⟩:AI) rfl rfl ag34 rfl rfl rfl rfl (by first | omega | (simp only [List.length_set]; omega))) rfl rfl ?_
      refine .nil (by kernel_rfl)<|?_
      refine TQ.weak ?_ (fun a w h=>Conc.relen h 5 ((((y232).set y230.toNat (⟨⟨(((x237.1).Lo).M),((x237.1).Lo).E⟩,⟨(((x237.1).Hi).M),((x237.1).Hi).E⟩⟩:AI))).length) rfl List.length_set.symm)
      refine .block<|.weak (h159 (x237.2,((y232).set y230.toNat (⟨⟨(((x237.1).Lo).M),((x237.1).Lo).E⟩,⟨(((x237.1).Hi).M),((x237.1).Hi).E⟩⟩:AI)))) (jn (m:=1) [(0,0),(1,1)] hE (.p rfl rfl<|.g rfl (.row _ _ _ _ _ rfl)<|.g rfl (ren_slL (.cons (.cons (ren_fnL _ .nil .nil)<|.i<|.i<|.nil) (.cons (.cons (ren_fnL _ .nil .nil)<|.i<|.i<|.nil) .nil)))<|.i rfl<|.i rfl<|.nil) (.v rfl (.i<|.i<|.nil)<|.cons (.refl _) (renV_rw _ _)<|.nil) rfl)
     ·refine TR.ite (fun h165=>?_) (fun h165=>?_)
      ·refine TR.st 37 (.iptr [(.fn 52 [] []),(.int .i64 a2),(.int .i64 a3)]) [] (snd_index_at 1 _ _ _ _ _ _ _ _ rfl underlying154 si126 rfl rfl rfl rfl (by intro e he; simp at he; rcases he with rfl | rfl<;>rfl) rfl h165 rfl) rfl rfl rfl ?_
       refine .p (lai ag126 rfl)<|.w (al 2 ze126 rfl)<|.p (sg rfl)<|.n (sa ag126 rfl)<|.nil<|.seq<|.guard fun h166=>?_
       refine T.weak ?_ (fun a w h=>Conc.gr_open1 kI h 5 1 y232 (by omega) rfl)
       refine T.weak ?_ (fun a w h=>Conc.gr_openV kI h 1 34 y232 (by omega) rfl)
       refine .draw mixed<|.p (mv rfl)<|.p (mv rfl)<|.p (mv rfl)<|.p (mv rfl)<|.p (mv rfl)<|.guard fun h167=>?_
       obtain ⟨h1671,h1672⟩:=h167
       refine TD.st 44 (.rptr 1 kI.sz y230.toNat 0) [] (idx_r (snd_index_r _ _ _ _ _ 1 0 ((y232).length) _ y230 rfl underlying104 si34 rfl rfl rfl rfl h1671 (by omega)) (Nat.zero_add _)) rfl rfl rfl ?_
       refine TD.st 45 (.agg (kI.enc (⟨⟨((((y232).getD y230.toNat zAI).Lo).M),(((y232).getD y230.toNat zAI).Lo).E⟩,⟨((((y232).getD y230.toNat zAI).Hi).M),(((y232).getD y230.toNat zAI).Hi).E⟩⟩:AI))) [] (snd_loadK_agg kI _ _ 1 y230.toNat 0 6 _ _ rfl ag34 rfl rfl rfl rfl (by first | omega | (simp only [List.length_set]; omega)) (by decide)) rfl rfl rfl ?_
       refine .p (fa 2 fl126_2 rfl)<|.p (ls sc3 rfl)<|.bind fun x238 h168=>.w (cl (cv_Scale_k h168) [0] [] [true] rfl (.p rfl<|.a kI<|.i<|.nil) (.p rfl (.i<|.i<|.nil) .nil) fnil (.cons (.v (.i<|.i<|.nil)) .nil) (ren_agg (K:=kI) _) (.turned .nil) rfl)<|.guard fun h169=>?_
       obtain ⟨h1691,h1692⟩:=h169
       refine TD.st 49 (.rptr 1 kI.sz y230.toNat 0) [] (idx_r (snd_index_r _ _ _ _ _ 1 0 ((y232).length) _ y230 rfl underlying104 si34 rfl rfl rfl rfl h1691 (by omega)) (Nat.zero_add _)) rfl rfl rfl ?_
       refine TD.sn [(1,(rwK kI 34 ((y232).set y230.toNat (⟨⟨(((x238.1).Lo).M),((x238.1).Lo).E⟩,⟨(((x238.1).Hi).M),((x238.1).Hi).E⟩⟩:AI))))] (snd_storeK_agg kI _ _ _ 1 y230.toNat _ _ (⟨⟨(((x238.1).Lo).M),((x238.1).Lo).E⟩,⟨(((x238.1).Hi).M),((x238.1).Hi).E⟩⟩:AI) rfl rfl ag34 rfl rfl rfl rfl (by first | omega | (simp only [List.length_set]; omega))) rfl rfl ?_
       refine .nil (by kernel_rfl)<|?_
       refine TQ.weak ?_ (fun a w h=>Conc.relen h 5 ((((y232).set y230.toNat (⟨⟨(((x238.1).Lo).M),((x238.1).Lo).E⟩,⟨(((x238.1).Hi).M),((x238.1).Hi).E⟩⟩:AI))).length) rfl List.length_set.symm)
       refine .block<|.weak (h159 (x238.2,((y232).set y230.toNat (⟨⟨(((x238.1).Lo).M),((x238.1).Lo).E⟩,⟨(((x238.1).Hi).M),((x238.1).Hi).E⟩⟩:AI)))) (jn (m:=1) [(0,0),(1,1)] hE (.p rfl rfl<|.g rfl (.row _ _ _ _ _ rfl)<|.g rfl (ren_slL (.cons (.cons (ren_fnL _ .nil .nil)<|.i<|.i<|.nil) (.cons (.cons (ren_fnL _ .nil .nil)<|.i<|.i<|.nil) .nil)))<|.i rfl<|.i rfl<|.nil) (.v rfl (.i<|.i<|.nil)<|.cons (.refl _) (renV_rw _ _)<|.nil) rfl)
      ·exact TR.no
   ·refine .exit<|.seq_exit<|.loop_exit<|.block_exit<|.weak (h115 (y231,y232)) (jn (m:=1) [(0,0),(1,1)] hE (.g rfl (ren_gr (K:=kI) (by rfl) y232)<|.nil) (.v rfl (.i<|.i<|.nil)<|.cons (.refl _) (renV_gr (K:=kI) 34 y232)<|.nil) rfl)
 ·intro h170
  refine .block<|?_
  refine T.weak ?_ (fun a w h=>Conc.gr_nil kI h 5 1 34 rfl)
  refine .loopW (X:=Int × Int × (List AI)) (fun n x=>konst_parts_3d9d_l5 a5 a0 a2 a1 a3 n x.1 x.2.1 x.2.2) (fun x=>(mkS [(0,some (.ptr 0 0)),(1,some (.sl [[(.fn 52 [] []),(.int .i64 a0),(.int .i64 a1)],[(.fn 52 [] []),(.int .i64 a2),(.int .i64 a3)]])),(5,some (grA kI 1 x.2.2)),(10,some (.sl [[(.fn 52 [] []),(.int .i64 a0),(.int .i64 a1)],[(.fn 52 [] []),(.int .i64 a2),(.int .i64 a3)]])),(11,some (.int .i64 2)),(12,some (.int .i64 x.1))] [(0,(.live 45 [(.int .i64 x.2.1),(.int .i64 a5)])),(1,(grV kI 34 x.2.2))])) (0,a4,[]) (jn (m:=1) [(0,0),(1,1)] hE (.p rfl rfl<|.g rfl (ren_slL (.cons (.cons (ren_fnL _ .nil .nil)<|.i<|.i<|.nil) (.cons (.cons (ren_fnL _ .nil .nil)<|.i<|.i<|.nil) .nil)))<|.g rfl (ren_gr (K:=kI) (by rfl) [])<|.g rfl (ren_slL (.cons (.cons (ren_fnL _ .nil .nil)<|.i<|.i<|.nil) (.cons (.cons (ren_fnL _ .nil .nil)<|.i<|.i<|.nil) .nil)))<|.i rfl<|.i rfl<|.nil) (.v rfl (.i<|.i<|.nil)<|.cons (.refl _) (renV_gr (K:=kI) 34 [])<|.nil) rfl) (fun _=>rfl) rfl<|?_
  rintro n5 ⟨y268,y269,y270⟩
  try dsimp only
  rw [konst_parts_3d9d_l5]
  refine .seq<|.region<|.p (ar rfl)<|.nil<|.seq<|.seq<|?_
  refine T.cond_p rfl iff_dec (fun h207 h208=>?_) (fun h207 h208=>?_)
  ·refine .skip<|.seq<|.seq<|?_
   refine T.cut (X:=Int × (List AI)) (fun x=>konst_parts_3d9d_j6 (fun z0 z1 z2=>konst_parts_3d9d_l5 a5 a0 a2 a1 a3 n5 z0 z1 z2) y268 x.1 x.2) (fun x=>(mkS [(0,some (.ptr 0 0)),(1,some (.sl [[(.fn 52 [] []),(.int .i64 a0),(.int .i64 a1)],[(.fn 52 [] []),(.int .i64 a2),(.int .i64 a3)]])),(5,some (.row 3 kI.sz 0 ((x.2).length))),(10,some (.sl [[(.fn 52 [] []),(.int .i64 a0),(.int .i64 a1)],[(.fn 52 [] []),(.int .i64 a2),(.int .i64 a3)]])),(11,some (.int .i64 2)),(12,some (.int .i64 y268))] [(0,(.live 45 [(.int .i64 x.1),(.int .i64 a5)])),(3,(rwK kI 34 x.2))])) ?_ ?_
   ·rintro ⟨y279,y280⟩
    dsimp only [konst_parts_3d9d_j6]
    refine .seq<|.region<|.p (ar rfl)<|.p (mv rfl)<|.nil<|.guard fun h221=>?_
    refine TQ.weak ?_ (fun a w h=>Conc.gr_row kI h 5 3 34 y280 rfl rfl (by first | omega | (simp only [List.length_append,List.length_cons,List.length_set]; omega) | simp))
    exact TQ.again ((IntKind.i64.wrap (y268+1)),y279,y280) (jn (m:=1) [(0,0),(3,1)] hE (.p rfl rfl<|.g rfl (ren_slL (.cons (.cons (ren_fnL _ .nil .nil)<|.i<|.i<|.nil) (.cons (.cons (ren_fnL _ .nil .nil)<|.i<|.i<|.nil) .nil)))<|.g rfl (ren_gr (K:=kI) (by rfl) y280)<|.g rfl (ren_slL (.cons (.cons (ren_fnL _ .nil .nil)<|.i<|.i<|.nil) (.cons (.cons (ren_fnL _ .nil .nil)<|.i<|.i<|.nil) .nil)))<|.i rfl<|.i rfl<|.nil) (.v rfl (.i<|.i<|.nil)<|.cons (.refl _) (renV_gr (K:=kI) 34 y280)<|.nil) rfl) rfl
   ·intro h222
    refine .block<|.seq<|.region<|?_
    refine TR.ite (fun h223=>?_) (fun h223=>?_)
    ·refine TR.st 14 (.iptr [(.fn 52 [] []),(.int .i64 a0),(.int .i64 a1)]) [] (snd_index_at 0 _ _ _ _ _ _ _ _ rfl underlying154 si126 rfl rfl rfl rfl (by intro e he; simp at he; rcases he with rfl | rfl<;>rfl) rfl h223 rfl) rfl rfl rfl ?_
     refine .p (lai ag126 rfl)<|.w (al 2 ze126 rfl)<|.n (sa ag126 rfl)<|.nil<|.seq<|.draw mixed<|.p (mv rfl)<|.p (fa 0 fl126_0 rfl)<|.p (ls sc58 rfl)<|.p (mv rfl)<|.p (mv rfl)<|.p (mv rfl)<|.bind fun x281 h224=>.w (cl (cv_Int_k h224) [0] [] [true] rfl (.p rfl<|.i<|.nil) (.p rfl (.i<|.i<|.nil) .nil) fnil (.cons (.v (.i<|.i<|.nil)) .nil) (ren_agg (K:=kI) _) (.turned .nil) rfl)<|?_
     refine .p (mv rfl)<|.p (fa 1 fl126_1 rfl)<|.p (ls sc3 rfl)<|.bind fun x282 h225=>.w (cl (cv_Int_k h225) [0] [] [true] rfl (.p rfl<|.i<|.nil) (.p rfl (.i<|.i<|.nil) .nil) fnil (.cons (.v (.i<|.i<|.nil)) .nil) (ren_agg (K:=kI) _) (.turned .nil) rfl)<|.bind fun x283 h226=>.w (cl (cv_Div_k h226) [0] [] [true] rfl (.p rfl<|.a kI<|.a kI<|.nil) (.p rfl (.i<|.i<|.nil) .nil) fnil (.cons (.v (.i<|.i<|.nil)) .nil) (ren_agg (K:=kI) _) (.turned .nil) rfl)<|.bind fun x284 h227=>.w (cl (small_Atan_k h227) [0] [] [true] rfl (.p rfl<|.a kI<|.nil) (.p rfl (.i<|.i<|.nil) .nil) fnil (.cons (.v (.i<|.i<|.nil)) .nil) (ren_agg (K:=kI) _) (.turned .nil) rfl)<|?_
     refine TD.st 29 (slK kI [(⟨⟨(((x284.1).Lo).M),((x284.1).Lo).E⟩,⟨(((x284.1).Hi).M),((x284.1).Hi).E⟩⟩:AI)]) [] (snd_buildSlice _ _ _ 6 _ _ [(0,(.agg (kI.enc (⟨⟨(((x284.1).Lo).M),((x284.1).Lo).E⟩,⟨(((x284.1).Hi).M),((x284.1).Hi).E⟩⟩:AI))))] (List.map kI.enc [(⟨⟨(((x284.1).Lo).M),((x284.1).Lo).E⟩,⟨(((x284.1).Hi).M),((x284.1).Hi).E⟩⟩:AI)]) rfl underlying104 ze34 si34 rfl rfl rfl (by decide) (by decide) (by decide) rfl rfl (Kd.even _) rfl) rfl rfl rfl ?_
     refine .guard fun h228=>?_
     refine TD.st 30 (.row 3 kI.sz 0 (((y270++[(⟨⟨(((x284.1).Lo).M),((x284.1).Lo).E⟩,⟨(((x284.1).Hi).M),((x284.1).Hi).E⟩⟩:AI)])).length)) [(3,(rwK kI 34 (y270++[(⟨⟨(((x284.1).Lo).M),((x284.1).Lo).E⟩,⟨(((x284.1).Hi).M),((x284.1).Hi).E⟩⟩:AI)]))),(1,.dead)] (snd_appendK_gr kI _ _ _ _ _ 1 3 y270 [(⟨⟨(((x284.1).Lo).M),((x284.1).Lo).E⟩,⟨(((x284.1).Hi).M),((x284.1).Hi).E⟩⟩:AI)] rfl underlying104 ze34 sb34 rfl rfl rfl rfl rfl rfl rfl h228) rfl rfl rfl ?_
     refine .p (sg rfl)<|.nil (by kernel_rfl)<|.block<|.weak (h222 (x284.2,(y270++[(⟨⟨(((x284.1).Lo).M),((x284.1).Lo).E⟩,⟨(((x284.1).Hi).M),((x284.1).Hi).E⟩⟩:AI)]))) (jn (m:=1) [(0,0),(3,3)] hE (.p rfl rfl<|.g rfl (ren_slL (.cons (.cons (ren_fnL _ .nil .nil)<|.i<|.i<|.nil) (.cons (.cons (ren_fnL _ .nil .nil)<|.i<|.i<|.nil) .nil)))<|.g rfl (.row _ _ _ _ _ rfl)<|.g rfl (ren_slL (.cons (.cons (ren_fnL _ .nil .nil)<|.i<|.i<|.nil) (.cons (.cons (ren_fnL _ .nil .nil)<|.i<|.i<|.nil) .nil)))<|.i rfl<|.i rfl<|.nil) (.v rfl (.i<|.i<|.nil)<|.cons (.refl _) (renV_rw _ _)<|.nil) rfl)
    ·refine TR.ite (fun h229=>?_) (fun h229=>?_)
     ·refine TR.st 14 (.iptr [(.fn 52 [] []),(.int .i64 a2),(.int .i64 a3)]) [] (snd_index_at 1 _ _ _ _ _ _ _ _ rfl underlying154 si126 rfl rfl rfl rfl (by intro e he; simp at he; rcases he with rfl | rfl<;>rfl) rfl h229 rfl) rfl rfl rfl ?_
      refine .p (lai ag126 rfl)<|.w (al 2 ze126 rfl)<|.n (sa ag126 rfl)<|.nil<|.seq<|.draw mixed<|.p (mv rfl)<|.p (fa 0 fl126_0 rfl)<|.p (ls sc58 rfl)<|.p (mv rfl)<|.p (mv rfl)<|.p (mv rfl)<|.bind fun x285 h230=>.w (cl (cv_Int_k h230) [0] [] [true] rfl (.p rfl<|.i<|.nil) (.p rfl (.i<|.i<|.nil) .nil) fnil (.cons (.v (.i<|.i<|.nil)) .nil) (ren_agg (K:=kI) _) (.turned .nil) rfl)<|?_
      refine .p (mv rfl)<|.p (fa 1 fl126_1 rfl)<|.p (ls sc3 rfl)<|.bind fun x286 h231=>.w (cl (cv_Int_k h231) [0] [] [true] rfl (.p rfl<|.i<|.nil) (.p rfl (.i<|.i<|.nil) .nil) fnil (.cons (.v (.i<|.i<|.nil)) .nil) (ren_agg (K:=kI) _) (.turned .nil) rfl)<|.bind fun x287 h232=>.w (cl (cv_Div_k h232) [0] [] [true] rfl (.p rfl<|.a kI<|.a kI<|.nil) (.p rfl (.i<|.i<|.nil) .nil) fnil (.cons (.v (.i<|.i<|.nil)) .nil) (ren_agg (K:=kI) _) (.turned .nil) rfl)<|.bind fun x288 h233=>.w (cl (small_Atan_k h233) [0] [] [true] rfl (.p rfl<|.a kI<|.nil) (.p rfl (.i<|.i<|.nil) .nil) fnil (.cons (.v (.i<|.i<|.nil)) .nil) (ren_agg (K:=kI) _) (.turned .nil) rfl)<|?_
      refine TD.st 29 (slK kI [(⟨⟨(((x288.1).Lo).M),((x288.1).Lo).E⟩,⟨(((x288.1).Hi).M),((x288.1).Hi).E⟩⟩:AI)]) [] (snd_buildSlice _ _ _ 6 _ _ [(0,(.agg (kI.enc (⟨⟨(((x288.1).Lo).M),((x288.1).Lo).E⟩,⟨(((x288.1).Hi).M),((x288.1).Hi).E⟩⟩:AI))))] (List.map kI.enc [(⟨⟨(((x288.1).Lo).M),((x288.1).Lo).E⟩,⟨(((x288.1).Hi).M),((x288.1).Hi).E⟩⟩:AI)]) rfl underlying104 ze34 si34 rfl rfl rfl (by decide) (by decide) (by decide) rfl rfl (Kd.even _) rfl) rfl rfl rfl ?_
      refine .guard fun h234=>?_
      refine TD.st 30 (.row 3 kI.sz 0 (((y270++[(⟨⟨(((x288.1).Lo).M),((x288.1).Lo).E⟩,⟨(((x288.1).Hi).M),((x288.1).Hi).E⟩⟩:AI)])).length)) [(3,(rwK kI 34 (y270++[(⟨⟨(((x288.1).Lo).M),((x288.1).Lo).E⟩,⟨(((x288.1).Hi).M),((x288.1).Hi).E⟩⟩:AI)]))),(1,.dead)] (snd_appendK_gr kI _ _ _ _ _ 1 3 y270 [(⟨⟨(((x288.1).Lo).M),((x288.1).Lo).E⟩,⟨(((x288.1).Hi).M),((x288.1).Hi).E⟩⟩:AI)] rfl underlying104 ze34 sb34 rfl rfl rfl rfl rfl rfl rfl h234) rfl rfl rfl ?_
      refine .p (sg rfl)<|.nil (by kernel_rfl)<|.block<|.weak (h222 (x288.2,(y270++[(⟨⟨(((x288.1).Lo).M),((x288.1).Lo).E⟩,⟨(((x288.1).Hi).M),((x288.1).Hi).E⟩⟩:AI)]))) (jn (m:=1) [(0,0),(3,3)] hE (.p rfl rfl<|.g rfl (ren_slL (.cons (.cons (ren_fnL _ .nil .nil)<|.i<|.i<|.nil) (.cons (.cons (ren_fnL _ .nil .nil)<|.i<|.i<|.nil) .nil)))<|.g rfl (.row _ _ _ _ _ rfl)<|.g rfl (ren_slL (.cons (.cons (ren_fnL _ .nil .nil)<|.i<|.i<|.nil) (.cons (.cons (ren_fnL _ .nil .nil)<|.i<|.i<|.nil) .nil)))<|.i rfl<|.i rfl<|.nil) (.v rfl (.i<|.i<|.nil)<|.cons (.refl _) (renV_rw _ _)<|.nil) rfl)
     ·exact TR.no
  ·refine .exit<|.seq_exit<|.loop_exit<|.block_exit<|.weak (h170 (y269,y270)) (jn (m:=1) [(0,0),(1,1)] hE (.p rfl rfl<|.g rfl (ren_slL (.cons (.cons (ren_fnL _ .nil .nil)<|.i<|.i<|.nil) (.cons (.cons (ren_fnL _ .nil .nil)<|.i<|.i<|.nil) .nil)))<|.g rfl (ren_gr (K:=kI) (by rfl) y270)<|.nil) (.v rfl (.i<|.i<|.nil)<|.cons (.refl _) (renV_gr (K:=kI) 34 y270)<|.nil) rfl)
theorem konst_parts_3d9d_k {a0:Int} {a1:Int} {a2:Int} {a3:Int} {a4:Int} {a5:Int} {r:(List AI) × Int} (h:konst_parts_3d9d a0 a1 a2 a3 a4 a5=some r):Cal Tryz.prog 124 [(.ptr 0 0),(.sl [[(.fn 52 [] []),(.int .i64 a0),(.int .i64 a1)],[(.fn 52 [] []),(.int .i64 a2),(.int .i64 a3)]])] [(.live 45 [(.int .i64 a4),(.int .i64 a5)])] (slK kI r.1) [(.live 45 [(.int .i64 r.2),(.int .i64 a5)])]:=⟨⟨_,func124,nm124,rfl⟩,konst_parts_3d9d_c a0 a1 a2 a3 a4 a5 _ h⟩
theorem cv_Sub_c (a0:AI) (a1:AI) (a2:Int) (a3:Int):∀ r,cv_Sub a0 a1 a2 a3=some r→ACalls Tryz.prog 24 [(.ptr 0 0),(.agg (kI.enc a0)),(.agg (kI.enc a1))] (lw [(.live 45 [(.int .i64 a2),(.int .i64 a3)])]) (.agg (kI.enc (⟨⟨(((r.1).Lo).M),((r.1).Lo).E⟩,⟨(((r.1).Hi).M),((r.1).Hi).E⟩⟩:AI))) (ld [(.live 45 [(.int .i64 r.2),(.int .i64 a3)])]):=by
 unfold cv_Sub
 refine go 1 func24 ntmps24 rfl ?_
 intro E hE
 refine .seq<|.region<|.w (bx 1 rfl)<|.w (bx 2 rfl)<|.w (al 3 ze34 rfl)<|.nil<|.seq<|.seq<|.draw mixed<|.p (mv rfl)<|.p (la ag34 rfl)<|.p (mv rfl)<|.p (la ag34 rfl)<|.bind fun x3 h1=>?_
 refine .w (cl (cv_Neg_k h1) [0] [] [true] rfl (.p rfl<|.a kI<|.nil) (.p rfl (.i<|.i<|.nil) .nil) fnil (.cons (.v (.i<|.i<|.nil)) .nil) (ren_agg (K:=kI) _) (.turned .nil) rfl)<|.bind fun x4 h2=>.w (cl (cv_Add_k h2) [0] [] [true] rfl (.p rfl<|.a kI<|.a kI<|.nil) (.p rfl (.i<|.i<|.nil) .nil) fnil (.cons (.v (.i<|.i<|.nil)) .nil) (ren_agg (K:=kI) _) (.turned .nil) rfl)<|.n (sa ag34 rfl)<|.nil (by kernel_rfl)<|.seq<|.ret<|fin_1 (.inr rfl) (.k rfl (.nil _)) results24 (.a ag34 rfl) (AVle.refl _)
theorem cv_Sub_k {a0:AI} {a1:AI} {a2:Int} {a3:Int} {r:AI × Int} (h:cv_Sub a0 a1 a2 a3=some r):Cal Tryz.prog 24 [(.ptr 0 0),(.agg (kI.enc a0)),(.agg (kI.enc a1))] [(.live 45 [(.int .i64 a2),(.int .i64 a3)])] (.agg (kI.enc (⟨⟨(((r.1).Lo).M),((r.1).Lo).E⟩,⟨(((r.1).Hi).M),((r.1).Hi).E⟩⟩:AI))) [(.live 45 [(.int .i64 r.2),(.int .i64 a3)])]:=⟨⟨_,func24,nm24,rfl⟩,cv_Sub_c a0 a1 a2 a3 _ h⟩
theorem konst_Pi_c (a0:Int) (a1:Int):∀ r,konst_Pi a0 a1=some r→ACalls Tryz.prog 62 [(.ptr 0 0)] (lw [(.live 45 [(.int .i64 a0),(.int .i64 a1)])]) (.agg (kI.enc (⟨⟨(((r.1).Lo).M),((r.1).Lo).E⟩,⟨(((r.1).Hi).M),((r.1).Hi).E⟩⟩:AI))) (ld [(.live 45 [(.int .i64 r.2),(.int .i64 a1)])]):=by
 unfold konst_Pi
 refine go 1 func62 ntmps62 rfl ?_
 intro E hE
 refine .seq<|.region<|.w (al 1 ze34 rfl)<|.nil<|.seq<|.seq<|.region<|.p (mv rfl)<|.p (bd ze126 pl126 rfl)<|.p (bd ze126 pl126 rfl)<|?_
 refine TR.st 7 (.sl [[(.fn 52 [] []),(.int .i64 5),(.int .i64 4)],[(.fn 52 [] []),(.int .i64 239),(.int .i64 2)]]) [] (snd_buildSlice _ _ _ 3 _ _ [(0,(.agg [(.fn 52 [] []),(.int .i64 5),(.int .i64 4)])),(1,(.agg [(.fn 52 [] []),(.int .i64 239),(.int .i64 2)]))] [[(.fn 52 [] []),(.int .i64 5),(.int .i64 4)],[(.fn 52 [] []),(.int .i64 239),(.int .i64 2)]] rfl underlying154 ze126 si126 rfl rfl rfl (by decide) (by decide) (by decide) rfl rfl (by intro e he; simp at he; rcases he with rfl | rfl<;>rfl) rfl) rfl rfl rfl ?_
 refine .bind fun x3 h1=>.w (cl (konst_parts_3d9d_k h1) [0] [] [true] rfl (.p rfl<|.cons (ren_slL (.cons (.cons (ren_fnL _ .nil .nil)<|.i<|.i<|.nil) (.cons (.cons (ren_fnL _ .nil .nil)<|.i<|.i<|.nil) .nil)))<|.nil) (.p rfl (.i<|.i<|.nil) .nil) fnil (.cons (.v (.i<|.i<|.nil)) .nil) (ren_sl _) (.turned .nil) rfl)<|.p (sg rfl)<|.nil<|.seq<|.seq<|.draw mixed<|.p (mv rfl)<|.p (mv rfl)<|.guard fun h2=>?_
 refine TD.st 11 (.iptr [(.bool ((((x3.1.getD 0 zAI).Lo).M).Neg)),(slK (kInt .u32) ((((x3.1.getD 0 zAI).Lo).M).Mag)),(.int .i64 (((x3.1.getD 0 zAI).Lo).E)),(.bool ((((x3.1.getD 0 zAI).Hi).M).Neg)),(slK (kInt .u32) ((((x3.1.getD 0 zAI).Hi).M).Mag)),(.int .i64 (((x3.1.getD 0 zAI).Hi).E))]) [] (snd_indexK kI _ _ _ _ _ _ 0 rfl underlying104 si34 rfl rfl rfl rfl h2) rfl rfl rfl ?_
 refine .p (lai ag34 rfl)<|.p (mv rfl)<|.guard fun h3=>?_
 refine TD.st 14 (.iptr [(.bool ((((x3.1.getD 1 zAI).Lo).M).Neg)),(slK (kInt .u32) ((((x3.1.getD 1 zAI).Lo).M).Mag)),(.int .i64 (((x3.1.getD 1 zAI).Lo).E)),(.bool ((((x3.1.getD 1 zAI).Hi).M).Neg)),(slK (kInt .u32) ((((x3.1.getD 1 zAI).Hi).M).Mag)),(.int .i64 (((x3.1.getD 1 zAI).Hi).E))]) [] (snd_indexK kI _ _ _ _ _ _ 1 rfl underlying104 si34 rfl rfl rfl rfl h3) rfl rfl rfl ?_
 refine .p (lai ag34 rfl)<|.bind fun x4 h4=>.w (cl (cv_Sub_k h4) [0] [] [true] rfl (.p rfl<|.a kI<|.a kI<|.nil) (.p rfl (.i<|.i<|.nil) .nil) fnil (.cons (.v (.i<|.i<|.nil)) .nil) (ren_agg (K:=kI) _) (.turned .nil) rfl)<|.n (sa ag34 rfl)<|.nil (by kernel_rfl)<|.seq<|.ret<|fin_1 (.inr rfl) (.k rfl (.nil _)) results62 (.a ag34 rfl) (AVle.refl _)
theorem konst_Pi_k {a0:Int} {a1:Int} {r:AI × Int} (h:konst_Pi a0 a1=some r):Cal Tryz.prog 62 [(.ptr 0 0)] [(.live 45 [(.int .i64 a0),(.int .i64 a1)])] (.agg (kI.enc (⟨⟨(((r.1).Lo).M),((r.1).Lo).E⟩,⟨(((r.1).Hi).M),((r.1).Hi).E⟩⟩:AI))) [(.live 45 [(.int .i64 r.2),(.int .i64 a1)])]:=⟨⟨_,func62,nm62,rfl⟩,konst_Pi_c a0 a1 _ h⟩
theorem r01_Trim_c (a0:List Int):∀ r,r01_Trim a0=some r→ACalls Tryz.prog 153 [(slK (kInt .u32) a0)] (lw []) (slK (kInt .u32) r) (ld []):=by
 unfold r01_Trim
 refine go 0 func153 ntmps153 rfl ?_
 intro E hE
 refine .seq<|.region<|.p (sg rfl)<|.nil<|.seq<|.seq<|.region<|.p (mv rfl)<|.p (ln underlying22 rfl)<|.p (sg rfl)<|.nil<|.seq<|.seq<|?_
 refine T.cut (X:=Int) (fun x=>r01_Trim_j1 a0 x) (fun x=>(mkS [(0,some (slK (kInt .u32) a0)),(3,some (.int .i64 x))] [])) ?_ ?_
 ·rintro y17
  dsimp only [r01_Trim_j1]
  refine .seq<|.seq<|.region<|.p (sg rfl)<|.nil<|.seq<|.seq<|.region<|.p (mv rfl)<|.p (mv rfl)<|.p (mv rfl)<|.guard fun h19=>?_
  refine TR.st 22 (slK (kInt .u32) (a0.take y17.toNat)) [] (snd_sliceK (kInt .u32) _ _ _ _ _ _ 0 y17 rfl underlying22 si77 rfl rfl rfl rfl rfl h19) rfl rfl rfl ?_
  refine .guard fun h20=>?_
  refine TR.st 23 (grA (kInt .u32) 0 (a0.take y17.toNat)) [(0,(grV (kInt .u32) 77 (a0.take y17.toNat)))] (snd_appendK_nil0 (kInt .u32) _ _ _ _ _ 0 (a0.take y17.toNat) rfl underlying22 ze77 sb77 rfl rfl rfl rfl rfl h20) rfl rfl rfl ?_
  refine .p (sg rfl)<|.nil<|.seq<|.ret<|?_
  refine TQ.weak ?_ (fun a w h=>Conc.gr_still (kInt .u32) h 2 0 77 (a0.take y17.toNat) rfl rfl)
  exact fin_1 (.inr rfl) (.nil _) results153 (.t rfl) (AVle.refl _)
 ·intro h21
  refine .block<|.loopW (X:=Int) (fun n x=>r01_Trim_l2 a0 n x) (fun x=>(mkS [(0,some (slK (kInt .u32) a0)),(3,some (.int .i64 x))] [])) (a0.length:Int) (jn (m:=0) [] hE (.l rfl<|.i rfl<|.nil) .nil rfl) (fun _=>rfl) rfl<|?_
  rintro n2 y21
  try dsimp only
  rw [r01_Trim_l2]
  refine .seq<|.seq<|?_
  refine T.cut (X:=Bool) (fun x=>r01_Trim_j3 (fun z0=>r01_Trim_l2 a0 n2 z0) y21 a0 x) (fun x=>(mkS [(0,some (slK (kInt .u32) a0)),(3,some (.int .i64 y21)),(16,some (.bool x))] [])) ?_ ?_
  ·rintro y22
   dsimp only [r01_Trim_j3]
   refine .seq<|?_
   refine T.cond_p rfl iff_b (fun h36 h37=>?_) (fun h36 h37=>?_)
   ·refine .skip<|.seq<|.block<|.region<|.p (mv rfl)<|.p (ar rfl)<|.p (sg rfl)<|.nil<|.block<|.again (IntKind.i64.wrap (y21-1)) (jn (m:=0) [] hE (.l rfl<|.i rfl<|.nil) .nil rfl) rfl
   ·refine .exit<|.seq_exit<|.loop_exit<|.block_exit<|.weak (h21 y21) (jn (m:=0) [] hE (.l rfl<|.i rfl<|.nil) .nil rfl)
  ·intro h38
   refine .region<|.p (mv rfl)<|.p (ar rfl)<|.p (mv rfl)<|?_
   refine TR.gd 9 _ rfl iff_dec (fun h39=>?_) (fun h39=>?_)
   ·refine .p (mv rfl)<|.p (mv rfl)<|.p (ar rfl)<|.guard fun h40=>?_
    refine TR.st 13 (.iptr [(.int .u32 (a0.getD ((IntKind.i64.wrap (y21-1)).toNat) (kInt .u32).z))]) [] (snd_indexK (kInt .u32) _ _ _ _ _ _ (IntKind.i64.wrap (y21-1)) rfl underlying22 si77 rfl rfl rfl rfl h40) rfl rfl rfl ?_
    refine .p (lsi sc77 rfl)<|.p (ar rfl)<|.p (pt rfl)<|.nil<|.weak (h38 ((a0.getD ((IntKind.i64.wrap (y21-1)).toNat) (kInt .u32).z) == 0)) (jn (m:=0) [] hE (.l rfl<|.i rfl<|.b rfl<|.nil) .nil rfl)
   ·refine .k rfl<|.k rfl<|.k rfl<|.k rfl<|.k rfl<|.k rfl<|.p (pf rfl)<|.nil<|.weak (h38 false) (jn (m:=0) [] hE (.l rfl<|.i rfl<|.b rfl<|.nil) .nil rfl)
theorem r01_Trim_p {a0:List Int} {r:(List Int)} (h:r01_Trim a0=some r):Pur Tryz.prog 153 [(slK (kInt .u32) a0)] (slK (kInt .u32) r):=⟨⟨_,func153,nm153,rfl⟩,r01_Trim_c a0 _ h,fun _=>(.l<|.nil),fun _=>(ren_sl _)⟩
theorem r01_From_c (a0:Int):∀ r,r01_From a0=some r→ACalls Tryz.prog 158 [(.int .u64 a0)] (lw []) (slK (kInt .u32) r) (ld []):=by
 unfold r01_From
 refine go 0 func158 ntmps158 rfl ?_
 intro E hE
 refine .seq<|.region<|?_
 refine TR.st 2 (slK (kInt .u32) []) [] (Snd.le (snd_assign _ _ rfl rfl rfl rfl) AVle.nil) rfl rfl rfl ?_
 refine .nil<|.seq<|.seq<|.region<|.p (mv rfl)<|.p (cv underlying117 underlying77 rfl)<|.p (mv rfl)<|?_
 refine TR.st 6 (.int .u64 (shrI .u64 a0 32)) [] (snd_shr _ _ _ _ _ _ _ _ rfl rfl rfl rfl rfl (by decide)) rfl rfl rfl ?_
 refine .p (cv underlying117 underlying77 rfl)<|?_
 refine TR.st 8 (slK (kInt .u32) [(IntKind.u32.wrap a0),(IntKind.u32.wrap (shrI .u64 a0 32))]) [] (snd_buildSlice _ _ _ 1 _ _ [(0,(.int .u32 (IntKind.u32.wrap a0))),(1,(.int .u32 (IntKind.u32.wrap (shrI .u64 a0 32))))] (List.map (kInt .u32).enc [(IntKind.u32.wrap a0),(IntKind.u32.wrap (shrI .u64 a0 32))]) rfl underlying22 ze77 si77 rfl rfl rfl (by decide) (by decide) (by decide) rfl rfl (Kd.even _) rfl) rfl rfl rfl ?_
 refine .bind fun x2 h1=>.p (c0 (r01_Trim_p h1) rfl)<|.p (sg rfl)<|.nil<|.seq<|.ret<|fin_1 (.inr rfl) (.nil _) results158 (.t rfl) (AVle.refl _)
theorem r01_From_p {a0:Int} {r:(List Int)} (h:r01_From a0=some r):Pur Tryz.prog 158 [(.int .u64 a0)] (slK (kInt .u32) r):=⟨⟨_,func158,nm158,rfl⟩,r01_From_c a0 _ h,fun _=>(.i<|.nil),fun _=>(ren_sl _)⟩
theorem r04_Make_c (a0:Bool) (a1:List Int):∀ r,r04_Make a0 a1=some r→ACalls Tryz.prog 103 [(.bool a0),(slK (kInt .u32) a1)] (lw []) (.agg (kN.enc (r))) (ld []):=by
 unfold r04_Make
 refine go 0 func103 ntmps103 rfl ?_
 intro E hE
 refine .seq<|.region<|.w (al 0 ze24 rfl)<|.nil<|.seq<|.seq<|.region<|.p (mv rfl)<|.bind fun x3 h1=>.p (c0 (r01_Trim_p h1) rfl)<|.p (sg rfl)<|.nil<|.seq<|.seq<|?_
 refine T.cut (X:=Bool) (fun x=>r04_Make_j1 x3 x) (fun x=>(mkS [(4,some (.ptr 0 0))] [(0,(.live 24 [(.bool x),(slK (kInt .u32) x3)]))])) ?_ ?_
 ·rintro y4
  dsimp only [r04_Make_j1]
  refine .seq<|.ret<|fin_1 (.inr rfl) (.nil _) results103 (.a ag24 rfl) (AVle.refl _)
 ·intro h3
  refine .region<|.p (mv rfl)<|.p (mv rfl)<|?_
  refine TR.gd 9 _ rfl iff_b (fun h4=>?_) (fun h4=>?_)
  ·refine .p (mv rfl)<|.p (ln underlying22 rfl)<|.p (ar rfl)<|.p (pt rfl)<|.p (mv rfl)<|.p (bd ze24 pl24 rfl)<|.n (sa ag24 rfl)<|.nil<|.weak (h3 (decide ((x3.length:Int)>0))) (jn (m:=0) [(0,0)] hE (.p rfl rfl<|.nil) (.v rfl (.b<|.l<|.nil)<|.nil) rfl)
  ·refine .k rfl<|.k rfl<|.k rfl<|.p (pf rfl)<|.p (mv rfl)<|.p (bd ze24 pl24 rfl)<|.n (sa ag24 rfl)<|.nil<|.weak (h3 false) (jn (m:=0) [(0,0)] hE (.p rfl rfl<|.nil) (.v rfl (.b<|.l<|.nil)<|.nil) rfl)
theorem r04_Make_p {a0:Bool} {a1:List Int} {r:ApiInt} (h:r04_Make a0 a1=some r):Pur Tryz.prog 103 [(.bool a0),(slK (kInt .u32) a1)] (.agg (kN.enc (r))):=⟨⟨_,func103,nm103,rfl⟩,r04_Make_c a0 a1 _ h,fun _=>(.b<|.l<|.nil),fun _=>(ren_agg (K:=kN) _)⟩
theorem r04_From_c (a0:Int):∀ r,r04_From a0=some r→ACalls Tryz.prog 108 [(.int .i64 a0)] (lw []) (.agg (kN.enc (r))) (ld []):=by
 unfold r04_From
 refine go 0 func108 ntmps108 rfl ?_
 intro E hE
 refine .seq<|.region<|.w (al 0 ze24 rfl)<|.nil<|.seq<|.seq<|.seq<|.region<|.p (mv rfl)<|.p (ar rfl)<|.nil<|.seq<|?_
 refine T.cond_p rfl iff_dec (fun h1 h2=>?_) (fun h1 h2=>?_)
 ·refine .seq<|.region<|.p (mv rfl)<|.p (ar rfl)<|.p (un rfl)<|.p (cv underlying3 underlying117 rfl)<|.p (ar rfl)<|.bind fun x5 h3=>.p (c0 (r01_From_p h3) rfl)<|.bind fun x6 h4=>.p (c0 (r04_Make_p h4) rfl)<|.n (sa ag24 rfl)<|.nil<|.seq<|?_
  refine .ret<|.seq_ret<|fin_1 (.inr rfl) (.nil _) results108 (.a ag24 rfl) (AVle.refl _)
 ·refine .skip<|.seq<|.seq<|.region<|.p (mv rfl)<|.p (cv underlying3 underlying117 rfl)<|.bind fun x7 h5=>.p (c0 (r01_From_p h5) rfl)<|.bind fun x8 h6=>.p (c0 (r04_Make_p h6) rfl)<|.n (sa ag24 rfl)<|.nil<|.seq<|.ret<|fin_1 (.inr rfl) (.nil _) results108 (.a ag24 rfl) (AVle.refl _)
theorem r04_From_p {a0:Int} {r:ApiInt} (h:r04_From a0=some r):Pur Tryz.prog 108 [(.int .i64 a0)] (.agg (kN.enc (r))):=⟨⟨_,func108,nm108,rfl⟩,r04_From_c a0 _ h,fun _=>(.i<|.nil),fun _=>(ren_agg (K:=kN) _)⟩
theorem r01_Bit_c (a0:List Int) (a1:Int):∀ r,r01_Bit a0 a1=some r→ACalls Tryz.prog 156 [(slK (kInt .u32) a0),(.int .i64 a1)] (lw []) (.bool r) (ld []):=by
 unfold r01_Bit
 refine go 0 func156 ntmps156 rfl ?_
 intro E hE
 refine .seq<|.region<|.p (sg rfl)<|.nil<|.seq<|.seq<|.seq<|?_
 refine T.cut (X:=Bool) (fun x=>r01_Bit_j1 a1 a0 x) (fun x=>(mkS [(0,some (slK (kInt .u32) a0)),(1,some (.int .i64 a1)),(13,some (.bool x))] [])) ?_ ?_
 ·rintro y2
  dsimp only [r01_Bit_j1]
  refine .seq<|?_
  refine T.cond_p rfl iff_b (fun h2 h3=>?_) (fun h2 h3=>?_)
  ·refine .seq<|.region<|.p (sg rfl)<|.nil<|.seq<|.ret<|.seq_ret<|fin_1 (.inr rfl) (.nil _) results156 (.t rfl) (AVle.refl _)
  ·refine .skip<|.seq<|.seq<|.region<|.p (mv rfl)<|.p (mv rfl)<|?_
   refine TR.st 16 (.int .i64 (IntKind.i64.wrap (a1.tdiv 32))) [] (snd_quo _ _ _ _ _ _ _ rfl rfl rfl rfl rfl (by decide)) rfl rfl rfl ?_
   refine .guard fun h4=>?_
   refine TR.st 17 (.iptr [(.int .u32 (a0.getD ((IntKind.i64.wrap (a1.tdiv 32)).toNat) (kInt .u32).z))]) [] (snd_indexK (kInt .u32) _ _ _ _ _ _ (IntKind.i64.wrap (a1.tdiv 32)) rfl underlying22 si77 rfl rfl rfl rfl h4) rfl rfl rfl ?_
   refine .p (lsi sc77 rfl)<|.p (mv rfl)<|?_
   refine TR.st 20 (.int .i64 (a1.tmod 32)) [] (snd_rem _ _ _ _ _ _ _ rfl rfl rfl rfl rfl (by decide)) rfl rfl rfl ?_
   refine .guard fun h5=>?_
   refine TR.st 21 (.int .u32 (shrI .u32 (a0.getD ((IntKind.i64.wrap (a1.tdiv 32)).toNat) (kInt .u32).z) (a1.tmod 32))) [] (snd_shr _ _ _ _ _ _ _ _ rfl rfl rfl rfl rfl h5) rfl rfl rfl ?_
   refine .p (ar rfl)<|.p (ar rfl)<|.p (sg rfl)<|.nil<|.seq<|.ret<|fin_1 (.inr rfl) (.nil _) results156 (.t rfl) (AVle.refl _)
 ·intro h6
  refine .region<|.p (mv rfl)<|.p (ar rfl)<|.p (mv rfl)<|?_
  refine TR.gd 7 _ rfl iff_dec (fun h7=>?_) (fun h7=>?_)
  ·refine .k rfl<|.k rfl<|.k rfl<|.k rfl<|.k rfl<|.p (pt rfl)<|.nil<|.weak (h6 true) (jn (m:=0) [] hE (.l rfl<|.i rfl<|.b rfl<|.nil) .nil rfl)
  ·refine .p (mv rfl)<|?_
   refine TR.st 9 (.int .i64 (IntKind.i64.wrap (a1.tdiv 32))) [] (snd_quo _ _ _ _ _ _ _ rfl rfl rfl rfl rfl (by decide)) rfl rfl rfl ?_
   refine .p (mv rfl)<|.p (ln underlying22 rfl)<|.p (ar rfl)<|.p (pf rfl)<|.nil<|.weak (h6 (decide ((IntKind.i64.wrap (a1.tdiv 32))≥(a0.length:Int)))) (jn (m:=0) [] hE (.l rfl<|.i rfl<|.b rfl<|.nil) .nil rfl)
theorem r01_Bit_p {a0:List Int} {a1:Int} {r:Bool} (h:r01_Bit a0 a1=some r):Pur Tryz.prog 156 [(slK (kInt .u32) a0),(.int .i64 a1)] (.bool r):=⟨⟨_,func156,nm156,rfl⟩,r01_Bit_c a0 a1 _ h,fun _=>(.l<|.i<|.nil),fun _=>(.bool _)⟩
theorem r01_at_c (a0:List Int) (a1:Int):∀ r,r01_at a0 a1=some r→ACalls Tryz.prog 191 [(slK (kInt .u32) a0),(.int .i64 a1)] (lw []) (.int .u64 r) (ld []):=by
 unfold r01_at
 refine go 0 func191 ntmps191 rfl ?_
 intro E hE
 refine .seq<|.region<|.p (sg rfl)<|.nil<|.seq<|.seq<|.seq<|.region<|.p (mv rfl)<|.p (mv rfl)<|.p (ln underlying22 rfl)<|.p (ar rfl)<|.nil<|.seq<|?_
 refine T.cond_p rfl iff_dec (fun h1 h2=>?_) (fun h1 h2=>?_)
 ·refine .seq<|.region<|.p (sg rfl)<|.nil<|.seq<|.ret<|.seq_ret<|fin_1 (.inr rfl) (.nil _) results191 (.t rfl) (AVle.refl _)
 ·refine .skip<|.seq<|.seq<|.region<|.p (mv rfl)<|.p (mv rfl)<|.guard fun h3=>?_
  refine TR.st 11 (.iptr [(.int .u32 (a0.getD a1.toNat (kInt .u32).z))]) [] (snd_indexK (kInt .u32) _ _ _ _ _ _ a1 rfl underlying22 si77 rfl rfl rfl rfl h3) rfl rfl rfl ?_
  refine .p (lsi sc77 rfl)<|.p (cv underlying77 underlying117 rfl)<|.p (sg rfl)<|.nil<|.seq<|.ret<|fin_1 (.inr rfl) (.nil _) results191 (.t rfl) (AVle.refl _)
theorem r01_at_p {a0:List Int} {a1:Int} {r:Int} (h:r01_at a0 a1=some r):Pur Tryz.prog 191 [(slK (kInt .u32) a0),(.int .i64 a1)] (.int .u64 r):=⟨⟨_,func191,nm191,rfl⟩,r01_at_c a0 a1 _ h,fun _=>(.l<|.i<|.nil),fun _=>(.int _ _)⟩
theorem r01_Shr_c (a0:List Int) (a1:Int):∀ r,r01_Shr a0 a1=some r→ACalls Tryz.prog 157 [(slK (kInt .u32) a0),(.int .i64 a1)] (lw []) (slK (kInt .u32) r) (ld []):=by
 unfold r01_Shr
 refine go 0 func157 ntmps157 rfl ?_
 intro E hE
 refine .seq<|.region<|.p (sg rfl)<|.nil<|.seq<|.seq<|.seq<|.region<|.p (mv rfl)<|.p (ar rfl)<|.nil<|.seq<|?_
 refine T.cond_p rfl iff_dec (fun h1 h2=>?_) (fun h1 h2=>?_)
 ·refine .seq<|.region<|.p (mv rfl)<|.bind fun x36 h3=>.p (c0 (r01_Trim_p h3) rfl)<|.p (sg rfl)<|.nil<|.seq<|.ret<|.seq_ret<|fin_1 (.inr rfl) (.nil _) results157 (.t rfl) (AVle.refl _)
 ·refine .skip<|.seq<|.seq<|.seq<|.region<|.p (mv rfl)<|?_
  refine TR.st 13 (.int .i64 (IntKind.i64.wrap (a1.tdiv 32))) [] (snd_quo _ _ _ _ _ _ _ rfl rfl rfl rfl rfl (by decide)) rfl rfl rfl ?_
  refine .p (mv rfl)<|.p (ln underlying22 rfl)<|.p (ar rfl)<|.nil<|.seq<|?_
  refine T.cond_p rfl iff_dec (fun h4 h5=>?_) (fun h4 h5=>?_)
  ·refine .seq<|.region<|.p (sg rfl)<|.nil<|.seq<|.ret<|.seq_ret<|fin_1 (.inr rfl) (.nil _) results157 (.t rfl) AVle.nil
  ·refine .skip<|.seq<|.seq<|.region<|.p (sg rfl)<|.nil<|.seq<|.seq<|.seq<|.region<|.p (mv rfl)<|?_
   refine TR.st 18 (.int .i64 (IntKind.i64.wrap (a1.tdiv 32))) [] (snd_quo _ _ _ _ _ _ _ rfl rfl rfl rfl rfl (by decide)) rfl rfl rfl ?_
   refine .p (sg rfl)<|.nil<|.seq<|?_
   refine T.cut (X:=(List Int)) (fun x=>r01_Shr_j1 x) (fun x=>(mkS [(5,some (grA (kInt .u32) 0 x))] [(0,(grV (kInt .u32) 77 x))])) ?_ ?_
   ·rintro y53
    dsimp only [r01_Shr_j1]
    refine .seq<|.seq<|?_
    refine T.weak ?_ (fun a w h=>Conc.gr_still (kInt .u32) h 5 0 77 y53 rfl rfl)
    refine .region<|.p (mv rfl)<|.bind fun x54 h36=>.p (c0 (r01_Trim_p h36) rfl)<|.p (sg rfl)<|.nil<|.seq<|.ret<|fin_1 (.inr rfl) (.nil _) results157 (.t rfl) (AVle.refl _)
   ·intro h37
    refine .block<|?_
    refine T.weak ?_ (fun a w h=>Conc.gr_nil (kInt .u32) h 5 0 77 rfl)
    refine .loopW (X:=Int × (List Int)) (fun n x=>r01_Shr_l2 a0 a1 n x.1 x.2) (fun x=>(mkS [(0,some (slK (kInt .u32) a0)),(1,some (.int .i64 a1)),(5,some (grA (kInt .u32) 0 x.2)),(6,some (.int .i64 x.1))] [(0,(grV (kInt .u32) 77 x.2))])) ((IntKind.i64.wrap (a1.tdiv 32)),[]) (jn (m:=0) [(0,0)] hE (.l rfl<|.i rfl<|.g rfl (ren_gr (K:=(kInt .u32)) (by rfl) [])<|.i rfl<|.nil) (.cons (.refl _) (renV_gr (K:=(kInt .u32)) 77 [])<|.nil) rfl) (fun _=>rfl) rfl<|?_
    rintro n2 ⟨y65,y66⟩
    try dsimp only
    rw [r01_Shr_l2]
    refine .seq<|.seq<|.region<|.p (mv rfl)<|.p (mv rfl)<|.p (ln underlying22 rfl)<|.p (ar rfl)<|.nil<|.seq<|?_
    refine T.cond_p rfl iff_dec (fun h58 h59=>?_) (fun h58 h59=>?_)
    ·refine .skip<|.seq<|.seq<|.block<|.seq<|.region<|.p (mv rfl)<|.p (mv rfl)<|.bind fun x69 h64=>.p (c0 (r01_at_p h64) rfl)<|.p (mv rfl)<|.p (mv rfl)<|.p (ar rfl)<|.bind fun x70 h65=>?_
     refine .p (c0 (r01_at_p h65) rfl)<|?_
     refine TR.st 32 (.int .u64 (shlI .u64 x70 32)) [] (snd_shl _ _ _ _ _ _ _ _ rfl rfl rfl rfl rfl (by decide)) rfl rfl rfl ?_
     refine .p (ar rfl)<|.p (sg rfl)<|.nil<|.seq<|.region<|.p (mv rfl)<|.p (mv rfl)<|.p (mv rfl)<|?_
     refine TR.st 37 (.int .i64 (a1.tmod 32)) [] (snd_rem _ _ _ _ _ _ _ rfl rfl rfl rfl rfl (by decide)) rfl rfl rfl ?_
     refine .guard fun h66=>?_
     refine TR.st 38 (.int .u64 (shrI .u64 (orI .u64 x69 (shlI .u64 x70 32)) (a1.tmod 32))) [] (snd_shr _ _ _ _ _ _ _ _ rfl rfl rfl rfl rfl h66) rfl rfl rfl ?_
     refine .p (cv underlying117 underlying77 rfl)<|?_
     refine TR.st 40 (slK (kInt .u32) [(IntKind.u32.wrap (shrI .u64 (orI .u64 x69 (shlI .u64 x70 32)) (a1.tmod 32)))]) [] (snd_buildSlice _ _ _ 1 _ _ [(0,(.int .u32 (IntKind.u32.wrap (shrI .u64 (orI .u64 x69 (shlI .u64 x70 32)) (a1.tmod 32)))))] (List.map (kInt .u32).enc [(IntKind.u32.wrap (shrI .u64 (orI .u64 x69 (shlI .u64 x70 32)) (a1.tmod 32)))]) rfl underlying22 ze77 si77 rfl rfl rfl (by decide) (by decide) (by decide) rfl rfl (Kd.even _) rfl) rfl rfl rfl ?_
     refine .guard fun h67=>?_
     refine TR.st 41 (.row 1 (kInt .u32).sz 0 (((y66++[(IntKind.u32.wrap (shrI .u64 (orI .u64 x69 (shlI .u64 x70 32)) (a1.tmod 32)))])).length)) [(1,(rwK (kInt .u32) 77 (y66++[(IntKind.u32.wrap (shrI .u64 (orI .u64 x69 (shlI .u64 x70 32)) (a1.tmod 32)))]))),(0,.dead)] (snd_appendK_gr (kInt .u32) _ _ _ _ _ 0 1 y66 [(IntKind.u32.wrap (shrI .u64 (orI .u64 x69 (shlI .u64 x70 32)) (a1.tmod 32)))] rfl underlying22 ze77 sb77 rfl rfl rfl rfl rfl rfl rfl h67) rfl rfl rfl ?_
     refine .p (sg rfl)<|.nil<|.block<|.seq<|.region<|.p (mv rfl)<|.p (ar rfl)<|.p (sg rfl)<|.nil<|?_
     refine TQ.weak ?_ (fun a w h=>Conc.gr_row (kInt .u32) h 5 1 77 (y66++[(IntKind.u32.wrap (shrI .u64 (orI .u64 x69 (shlI .u64 x70 32)) (a1.tmod 32)))]) rfl rfl (by first | omega | (simp only [List.length_append,List.length_cons,List.length_set]; omega) | simp))
     exact TQ.again ((IntKind.i64.wrap (y65+1)),(y66++[(IntKind.u32.wrap (shrI .u64 (orI .u64 x69 (shlI .u64 x70 32)) (a1.tmod 32)))])) (jn (m:=0) [(1,0)] hE (.l rfl<|.i rfl<|.g rfl (ren_gr (K:=(kInt .u32)) (by rfl) (y66++[(IntKind.u32.wrap (shrI .u64 (orI .u64 x69 (shlI .u64 x70 32)) (a1.tmod 32)))]))<|.i rfl<|.nil) (.cons (.refl _) (renV_gr (K:=(kInt .u32)) 77 (y66++[(IntKind.u32.wrap (shrI .u64 (orI .u64 x69 (shlI .u64 x70 32)) (a1.tmod 32)))]))<|.nil) rfl) rfl
    ·refine .exit<|.seq_exit<|.loop_exit<|.block_exit<|.weak (h37 y66) (jn (m:=0) [(0,0)] hE (.g rfl (ren_gr (K:=(kInt .u32)) (by rfl) y66)<|.nil) (.cons (.refl _) (renV_gr (K:=(kInt .u32)) 77 y66)<|.nil) rfl)
theorem r01_Shr_p {a0:List Int} {a1:Int} {r:(List Int)} (h:r01_Shr a0 a1=some r):Pur Tryz.prog 157 [(slK (kInt .u32) a0),(.int .i64 a1)] (slK (kInt .u32) r):=⟨⟨_,func157,nm157,rfl⟩,r01_Shr_c a0 a1 _ h,fun _=>(.l<|.i<|.nil),fun _=>(ren_sl _)⟩
theorem r05_norm_c (a0:ApiInt) (a1:Int):∀ r,r05_norm a0 a1=some r→ACalls Tryz.prog 107 [(.agg (kN.enc a0)),(.int .i64 a1)] (lw []) (.agg (kD.enc (⟨((r).M),(r).E⟩:AD))) (ld []):=by
 unfold r05_norm
 refine go 0 func107 ntmps107 rfl ?_
 intro E hE
 refine .seq<|.region<|.w (bx 0 rfl)<|.w (al 1 ze26 rfl)<|.nil<|.seq<|.seq<|.region<|.p (fa 0 fl24_0 rfl)<|.p (ls sc4 rfl)<|.p (fa 1 fl24_1 rfl)<|.p (ls sc22 rfl)<|.bind fun x15 h1=>.p (c0 (r04_Make_p h1) rfl)<|?_
 refine .w (al 2 ze24 rfl)<|.n (sa ag24 rfl)<|.nil<|.seq<|.seq<|.seq<|.region<|.p (fa 1 fl24_1 rfl)<|.p (ls sc22 rfl)<|.p (ln underlying22 rfl)<|.p (ar rfl)<|.nil<|.seq<|?_
 refine T.cond_p rfl iff_eq (fun h2 h3=>?_) (fun h2 h3=>?_)
 ·refine .seq<|.region<|.p (bd ze26 pl26 rfl)<|.n (sa ag26 rfl)<|.nil<|.seq<|.ret<|.seq_ret<|fin_1 (.inr rfl) (.nil _) results107 (.a ag26 rfl) (AVle.refl _)
 ·refine .skip<|.seq<|.seq<|.region<|.p (sg rfl)<|.nil<|.seq<|.seq<|?_
  refine T.cut (X:=Int) (fun x=>r05_norm_j1 x15 a1 x) (fun x=>(mkS [(1,some (.int .i64 a1)),(4,some (.ptr 1 0)),(5,some (.ptr 2 0)),(6,some (.int .i64 x))] [(1,(.live 26 [(.bool false),(slK (kInt .u32) []),(.int .i64 0)])),(2,(.live 24 [(.bool ((x15).Neg)),(slK (kInt .u32) ((x15).Mag))]))])) ?_ ?_
  ·rintro y21
   dsimp only [r05_norm_j1]
   refine .seq<|.seq<|.draw mixed<|.p (fa 0 fl24_0 rfl)<|.p (ls sc4 rfl)<|.p (fa 1 fl24_1 rfl)<|.p (ls sc22 rfl)<|.p (mv rfl)<|.bind fun x22 h13=>.p (c0 (r01_Shr_p h13) rfl)<|.bind fun x23 h14=>.p (c0 (r04_Make_p h14) rfl)<|.p (mv rfl)<|.p (mv rfl)<|?_
   refine .p (ar rfl)<|.p (bd ze26 pl26 rfl)<|.n (sa ag26 rfl)<|.nil (by kernel_rfl)<|.seq<|.ret<|fin_1 (.inr rfl) (.nil _) results107 (.a ag26 rfl) (AVle.refl _)
  ·intro h15
   refine .block<|.loopW (X:=Int) (fun n x=>r05_norm_l2 x15 a1 n x) (fun x=>(mkS [(1,some (.int .i64 a1)),(4,some (.ptr 1 0)),(5,some (.ptr 2 0)),(6,some (.int .i64 x))] [(1,(.live 26 [(.bool false),(slK (kInt .u32) []),(.int .i64 0)])),(2,(.live 24 [(.bool ((x15).Neg)),(slK (kInt .u32) ((x15).Mag))]))])) 0 (jn (m:=0) [(1,1),(2,2)] hE (.i rfl<|.p rfl rfl<|.p rfl rfl<|.i rfl<|.nil) (.v rfl (.b<|.l<|.i<|.nil)<|.v rfl (.b<|.l<|.nil)<|.nil) rfl) (fun _=>rfl) rfl<|?_
   rintro n2 y27
   try dsimp only
   rw [r05_norm_l2]
   refine .seq<|.seq<|.region<|.p (fa 1 fl24_1 rfl)<|.p (ls sc22 rfl)<|.p (mv rfl)<|.bind fun x28 h22=>.p (c0 (r01_Bit_p h22) rfl)<|.p (un rfl)<|.nil<|.seq<|?_
   refine T.cond_p rfl iff_nb (fun h23 h24=>?_) (fun h23 h24=>?_)
   ·refine .skip<|.seq<|.block<|.region<|.p (mv rfl)<|.p (ar rfl)<|.p (sg rfl)<|.nil<|.block<|.again (IntKind.i64.wrap (y27+1)) (jn (m:=0) [(1,1),(2,2)] hE (.i rfl<|.p rfl rfl<|.p rfl rfl<|.i rfl<|.nil) (.v rfl (.b<|.l<|.i<|.nil)<|.v rfl (.b<|.l<|.nil)<|.nil) rfl) rfl
   ·refine .exit<|.seq_exit<|.loop_exit<|.block_exit<|.weak (h15 y27) (jn (m:=0) [(1,1),(2,2)] hE (.i rfl<|.p rfl rfl<|.p rfl rfl<|.i rfl<|.nil) (.v rfl (.b<|.l<|.i<|.nil)<|.v rfl (.b<|.l<|.nil)<|.nil) rfl)
theorem r05_norm_p {a0:ApiInt} {a1:Int} {r:AD} (h:r05_norm a0 a1=some r):Pur Tryz.prog 107 [(.agg (kN.enc a0)),(.int .i64 a1)] (.agg (kD.enc (⟨((r).M),(r).E⟩:AD))):=⟨⟨_,func107,nm107,rfl⟩,r05_norm_c a0 a1 _ h,fun _=>(.a kN<|.i<|.nil),fun _=>(ren_agg (K:=kD) _)⟩
theorem r05_From_c (a0:Int):∀ r,r05_From a0=some r→ACalls Tryz.prog 44 [(.int .i64 a0)] (lw []) (.agg (kD.enc (⟨((r).M),(r).E⟩:AD))) (ld []):=by
 unfold r05_From
 refine go 0 func44 ntmps44 rfl ?_
 intro E hE
 refine .seq<|.region<|.w (al 0 ze26 rfl)<|.nil<|.seq<|.seq<|.region<|.p (mv rfl)<|.bind fun x3 h1=>.p (c0 (r04_From_p h1) rfl)<|.bind fun x4 h2=>.p (c0 (r05_norm_p h2) rfl)<|.n (sa ag26 rfl)<|.nil<|?_
 refine .seq<|.ret<|fin_1 (.inr rfl) (.nil _) results44 (.a ag26 rfl) (AVle.refl _)
theorem r05_From_p {a0:Int} {r:AD} (h:r05_From a0=some r):Pur Tryz.prog 44 [(.int .i64 a0)] (.agg (kD.enc (⟨((r).M),(r).E⟩:AD))):=⟨⟨_,func44,nm44,rfl⟩,r05_From_c a0 _ h,fun _=>(.i<|.nil),fun _=>(ren_agg (K:=kD) _)⟩
theorem r04_Right_c (a0:ApiInt):∀ r,r04_Right a0=some r→ACalls Tryz.prog 181 [(.agg (kN.enc a0))] (lw []) (.bool r) (ld []):=by
 unfold r04_Right
 refine go 0 func181 ntmps181 rfl ?_
 intro E hE
 refine .seq<|.region<|.w (bx 0 rfl)<|.p (sg rfl)<|.nil<|.seq<|.seq<|.region<|.p (fa 1 fl24_1 rfl)<|.p (ls sc22 rfl)<|.p (ln underlying22 rfl)<|.p (sg rfl)<|.nil<|.seq<|?_
 refine .seq<|?_
 refine T.cut (X:=Bool) (fun x=>r04_Right_j1 x) (fun x=>(mkS [(2,some (.bool x))] [])) ?_ ?_
 ·rintro y2
  dsimp only [r04_Right_j1]
  refine .seq<|.ret<|fin_1 (.inr rfl) (.nil _) results181 (.t rfl) (AVle.refl _)
 ·intro h7
  refine .region<|.p (mv rfl)<|.p (ar rfl)<|.p (mv rfl)<|?_
  refine TR.gd 9 _ rfl iff_eq (fun h8=>?_) (fun h8=>?_)
  ·refine .p (fa 0 fl24_0 rfl)<|.p (ls sc4 rfl)<|.p (un rfl)<|.p (pt rfl)<|.p (mv rfl)<|?_
   refine TR.gd 14 _ rfl iff_nb (fun h9=>?_) (fun h9=>?_)
   ·refine .k rfl<|.k rfl<|.k rfl<|.k rfl<|.k rfl<|.k rfl<|.k rfl<|.k rfl<|.k rfl<|.k rfl<|.k rfl<|.p (pt rfl)<|.p (sg rfl)<|.nil<|.weak (h7 true) (jn (m:=0) [] hE (.b rfl<|.nil) .nil rfl)
   ·refine .p (mv rfl)<|.p (ar rfl)<|.p (mv rfl)<|?_
    refine TR.gd 17 _ rfl iff_dec (fun h10=>?_) (fun h10=>?_)
    ·refine .p (fa 1 fl24_1 rfl)<|.p (ls sc22 rfl)<|.p (mv rfl)<|.p (ar rfl)<|.guard fun h11=>?_
     refine TR.st 22 (.iptr [(.int .u32 (a0.Mag.getD ((IntKind.i64.wrap ((a0.Mag.length:Int)-1)).toNat) (kInt .u32).z))]) [] (snd_indexK (kInt .u32) _ _ _ _ _ _ (IntKind.i64.wrap ((a0.Mag.length:Int)-1)) rfl underlying22 si77 rfl rfl rfl rfl h11) rfl rfl rfl ?_
     refine .p (lsi sc77 rfl)<|.p (ar rfl)<|.p (pt rfl)<|.p (pf rfl)<|.p (sg rfl)<|.nil<|.weak (h7 ((a0.Mag.getD ((IntKind.i64.wrap ((a0.Mag.length:Int)-1)).toNat) (kInt .u32).z) != 0)) (jn (m:=0) [] hE (.b rfl<|.nil) .nil rfl)
    ·refine .k rfl<|.k rfl<|.k rfl<|.k rfl<|.k rfl<|.k rfl<|.k rfl<|.p (pf rfl)<|.p (pf rfl)<|.p (sg rfl)<|.nil<|.weak (h7 false) (jn (m:=0) [] hE (.b rfl<|.nil) .nil rfl)
  ·refine .k rfl<|.k rfl<|.k rfl<|.p (pf rfl)<|.p (mv rfl)<|.p (mv rfl)<|.p (ar rfl)<|.p (mv rfl)<|?_
   refine TR.gd 17 _ rfl iff_dec (fun h12=>?_) (fun h12=>?_)
   ·refine .p (fa 1 fl24_1 rfl)<|.p (ls sc22 rfl)<|.p (mv rfl)<|.p (ar rfl)<|.guard fun h13=>?_
    refine TR.st 22 (.iptr [(.int .u32 (a0.Mag.getD ((IntKind.i64.wrap ((a0.Mag.length:Int)-1)).toNat) (kInt .u32).z))]) [] (snd_indexK (kInt .u32) _ _ _ _ _ _ (IntKind.i64.wrap ((a0.Mag.length:Int)-1)) rfl underlying22 si77 rfl rfl rfl rfl h13) rfl rfl rfl ?_
    refine .p (lsi sc77 rfl)<|.p (ar rfl)<|.p (pt rfl)<|.p (pf rfl)<|.p (sg rfl)<|.nil<|.weak (h7 ((a0.Mag.getD ((IntKind.i64.wrap ((a0.Mag.length:Int)-1)).toNat) (kInt .u32).z) != 0)) (jn (m:=0) [] hE (.b rfl<|.nil) .nil rfl)
   ·refine .k rfl<|.k rfl<|.k rfl<|.k rfl<|.k rfl<|.k rfl<|.k rfl<|.p (pf rfl)<|.p (pf rfl)<|.p (sg rfl)<|.nil<|.weak (h7 false) (jn (m:=0) [] hE (.b rfl<|.nil) .nil rfl)
theorem r04_Right_p {a0:ApiInt} {r:Bool} (h:r04_Right a0=some r):Pur Tryz.prog 181 [(.agg (kN.enc a0))] (.bool r):=⟨⟨_,func181,nm181,rfl⟩,r04_Right_c a0 _ h,fun _=>(.a kN<|.nil),fun _=>(.bool _)⟩
theorem r05_Right_c (a0:AD):∀ r,r05_Right a0=some r→ACalls Tryz.prog 130 [(.agg (kD.enc a0))] (lw []) (.bool r) (ld []):=by
 unfold r05_Right
 refine go 0 func130 ntmps130 rfl ?_
 intro E hE
 refine .seq<|.region<|.w (bx 0 rfl)<|.p (sg rfl)<|.nil<|.seq<|.seq<|.region<|.p (fa 0 fl26_0 rfl)<|.p (la ag24 rfl)<|.bind fun x3 h1=>.p (c0 (r04_Right_p h1) rfl)<|.p (sg rfl)<|.nil<|?_
 refine .seq<|.seq<|.seq<|.region<|.p (mv rfl)<|.p (un rfl)<|.nil<|.seq<|?_
 refine T.cond_p rfl iff_nb (fun h2 h3=>?_) (fun h2 h3=>?_)
 ·refine .seq<|.region<|.p (sg rfl)<|.nil<|.seq<|.ret<|.seq_ret<|fin_1 (.inr rfl) (.nil _) results130 (.t rfl) (AVle.refl _)
 ·refine .skip<|.seq<|.seq<|.seq<|.region<|.p (fa 0 fl26_0 rfl)<|.p (fa 1 fl24_1 rfl)<|.p (ls sc22 rfl)<|.p (ln underlying22 rfl)<|.p (ar rfl)<|.nil<|.seq<|?_
  refine T.cond_p rfl iff_eq (fun h4 h5=>?_) (fun h4 h5=>?_)
  ·refine .seq<|.region<|.p (fa 2 fl26_1 rfl)<|.p (ls sc3 rfl)<|.p (ar rfl)<|.p (sg rfl)<|.nil<|.seq<|.ret<|.seq_ret<|fin_1 (.inr rfl) (.nil _) results130 (.t rfl) (AVle.refl _)
  ·refine .skip<|.seq<|.seq<|?_
   refine T.cut (X:=Bool) (fun x=>r05_Right_j1 x) (fun x=>(mkS [(2,some (.bool x))] [])) ?_ ?_
   ·rintro y4
    dsimp only [r05_Right_j1]
    refine .seq<|.ret<|fin_1 (.inr rfl) (.nil _) results130 (.t rfl) (AVle.refl _)
   ·intro h9
    refine .region<|.p (fa 0 fl26_0 rfl)<|.p (fa 1 fl24_1 rfl)<|.p (ls sc22 rfl)<|.guard fun h10=>?_
    refine TR.st 20 (.iptr [(.int .u32 (a0.M.Mag.getD 0 (kInt .u32).z))]) [] (snd_indexK (kInt .u32) _ _ _ _ _ _ 0 rfl underlying22 si77 rfl rfl rfl rfl h10) rfl rfl rfl ?_
    refine .p (lsi sc77 rfl)<|?_
    refine TR.st 22 (.int .u32 ((a0.M.Mag.getD 0 (kInt .u32).z).tmod 2)) [] (snd_rem _ _ _ _ _ _ _ rfl rfl rfl rfl rfl (by decide)) rfl rfl rfl ?_
    refine .p (ar rfl)<|.p (mv rfl)<|?_
    refine TR.gd 24 _ rfl iff_eq (fun h11=>?_) (fun h11=>?_)
    ·refine .p (fa 2 fl26_1 rfl)<|.p (ls sc3 rfl)<|.p (ar rfl)<|.p (pt rfl)<|.p (mv rfl)<|?_
     refine TR.gd 29 _ rfl iff_dec (fun h12=>?_) (fun h12=>?_)
     ·refine .p (fa 2 fl26_1 rfl)<|.p (ls sc3 rfl)<|.p (ar rfl)<|.p (pt rfl)<|.p (sg rfl)<|.nil<|.weak (h9 (decide (a0.E≤131072))) (jn (m:=0) [] hE (.b rfl<|.nil) .nil rfl)
     ·refine .k rfl<|.k rfl<|.k rfl<|.p (pf rfl)<|.p (sg rfl)<|.nil<|.weak (h9 false) (jn (m:=0) [] hE (.b rfl<|.nil) .nil rfl)
    ·refine .k rfl<|.k rfl<|.k rfl<|.p (pf rfl)<|.p (mv rfl)<|.k rfl<|.k rfl<|.k rfl<|.p (pf rfl)<|.p (sg rfl)<|.nil<|.weak (h9 false) (jn (m:=0) [] hE (.b rfl<|.nil) .nil rfl)
theorem r05_Right_p {a0:AD} {r:Bool} (h:r05_Right a0=some r):Pur Tryz.prog 130 [(.agg (kD.enc a0))] (.bool r):=⟨⟨_,func130,nm130,rfl⟩,r05_Right_c a0 _ h,fun _=>(.a kD<|.nil),fun _=>(.bool _)⟩
theorem r01_Cmp_c (a0:List Int) (a1:List Int):∀ r,r01_Cmp a0 a1=some r→ACalls Tryz.prog 182 [(slK (kInt .u32) a0),(slK (kInt .u32) a1)] (lw []) (.int .i64 r) (ld []):=by
 unfold r01_Cmp
 refine go 0 func182 ntmps182 rfl ?_
 intro E hE
 refine .seq<|.region<|.p (sg rfl)<|.nil<|.seq<|.seq<|.seq<|.region<|.p (mv rfl)<|.p (ln underlying22 rfl)<|.p (mv rfl)<|.p (ln underlying22 rfl)<|?_
 refine TR.st 10 (.int .i64 (mx (a0.length:Int) (a1.length:Int))) [] (snd_max _ _ _ _ _ _ rfl rfl rfl rfl rfl) rfl rfl rfl ?_
 refine .p (ar rfl)<|.p (sg rfl)<|.nil<|.seq<|?_
 refine T.cut (X:=Unit) (fun x=>r01_Cmp_j1) (fun x=>(mkS [] [])) ?_ ?_
 ·rintro _
  dsimp only [r01_Cmp_j1]
  refine .seq<|.seq<|.region<|.p (sg rfl)<|.nil<|.seq<|.ret<|fin_1 (.inr rfl) (.nil _) results182 (.t rfl) (AVle.refl _)
 ·intro h55
  refine .block<|.loopW (X:=Int) (fun n x=>r01_Cmp_l2 a0 a1 n x) (fun x=>(mkS [(0,some (slK (kInt .u32) a0)),(1,some (slK (kInt .u32) a1)),(5,some (.int .i64 x))] [])) (IntKind.i64.wrap ((mx (a0.length:Int) (a1.length:Int))-1)) (jn (m:=0) [] hE (.l rfl<|.l rfl<|.i rfl<|.nil) .nil rfl) (fun _=>rfl) rfl<|?_
  rintro n2 y96
  try dsimp only
  rw [r01_Cmp_l2]
  refine .seq<|.seq<|.region<|.p (mv rfl)<|.p (ar rfl)<|.nil<|.seq<|?_
  refine T.cond_p rfl iff_dec (fun h92 h93=>?_) (fun h92 h93=>?_)
  ·refine .skip<|.seq<|.seq<|.block<|.seq<|.seq<|.region<|.p (mv rfl)<|.p (mv rfl)<|.bind fun x101 h102=>.p (c0 (r01_at_p h102) rfl)<|.p (mv rfl)<|.p (mv rfl)<|.bind fun x102 h103=>?_
   refine .p (c0 (r01_at_p h103) rfl)<|.p (ar rfl)<|.nil<|.seq<|?_
   refine T.cond_p rfl iff_dec (fun h104 h105=>?_) (fun h104 h105=>?_)
   ·refine .seq<|.region<|.p (sg rfl)<|.nil<|.seq<|.ret<|.seq_ret<|.block_ret<|.seq_ret<|.loop_ret<|.block_ret<|.seq_ret<|fin_1 (.inr rfl) (.nil _) results182 (.t rfl) (AVle.refl _)
   ·refine .skip<|.seq<|.seq<|.region<|.p (mv rfl)<|.p (mv rfl)<|.bind fun x103 h106=>.p (c0 (r01_at_p h106) rfl)<|.p (mv rfl)<|.p (mv rfl)<|.bind fun x104 h107=>.p (c0 (r01_at_p h107) rfl)<|.p (ar rfl)<|.nil<|?_
    refine .seq<|?_
    refine T.cond_p rfl iff_dec (fun h108 h109=>?_) (fun h108 h109=>?_)
    ·refine .seq<|.region<|.p (sg rfl)<|.nil<|.seq<|.ret<|.block_ret<|.seq_ret<|.loop_ret<|.block_ret<|.seq_ret<|fin_1 (.inr rfl) (.nil _) results182 (.t rfl) (AVle.refl _)
    ·refine .skip<|.block<|.seq<|.region<|.p (mv rfl)<|.p (ar rfl)<|.p (sg rfl)<|.nil<|.again (IntKind.i64.wrap (y96-1)) (jn (m:=0) [] hE (.l rfl<|.l rfl<|.i rfl<|.nil) .nil rfl) rfl
  ·refine .exit<|.seq_exit<|.loop_exit<|.block_exit<|.weak (h55 ()) (jn (m:=0) [] hE .nil .nil rfl)
theorem r01_Cmp_p {a0:List Int} {a1:List Int} {r:Int} (h:r01_Cmp a0 a1=some r):Pur Tryz.prog 182 [(slK (kInt .u32) a0),(slK (kInt .u32) a1)] (.int .i64 r):=⟨⟨_,func182,nm182,rfl⟩,r01_Cmp_c a0 a1 _ h,fun _=>(.l<|.l<|.nil),fun _=>(.int _ _)⟩
theorem r04_Cmp_c (a0:ApiInt) (a1:ApiInt):∀ r,r04_Cmp a0 a1=some r→ACalls Tryz.prog 131 [(.agg (kN.enc a0)),(.agg (kN.enc a1))] (lw []) (.int .i64 r) (ld []):=by
 unfold r04_Cmp
 refine go 0 func131 ntmps131 rfl ?_
 intro E hE
 refine .seq<|.region<|.w (bx 0 rfl)<|.w (bx 1 rfl)<|.p (sg rfl)<|.nil<|.seq<|.seq<|.region<|.p (fa 0 fl24_0 rfl)<|.p (ls sc4 rfl)<|.p (fa 1 fl24_1 rfl)<|.p (ls sc22 rfl)<|.bind fun x10 h1=>?_
 refine .p (c0 (r04_Make_p h1) rfl)<|.w (al 2 ze24 rfl)<|.n (sa ag24 rfl)<|.nil<|.seq<|.seq<|.region<|.p (fa 0 fl24_0 rfl)<|.p (ls sc4 rfl)<|.p (fa 1 fl24_1 rfl)<|.p (ls sc22 rfl)<|.bind fun x11 h2=>.p (c0 (r04_Make_p h2) rfl)<|.w (al 3 ze24 rfl)<|?_
 refine .n (sa ag24 rfl)<|.nil<|.seq<|.seq<|.block<|.seq<|?_
 refine T.cut (X:=Bool) (fun x=>r04_Cmp_j1 x10 x11 x) (fun x=>(mkS [(5,some (.ptr 2 0)),(6,some (.ptr 3 0)),(17,some (.bool x))] [(2,(.live 24 [(.bool ((x10).Neg)),(slK (kInt .u32) ((x10).Mag))])),(3,(.live 24 [(.bool ((x11).Neg)),(slK (kInt .u32) ((x11).Mag))]))])) ?_ ?_
 ·rintro y15
  dsimp only [r04_Cmp_j1]
  refine .seq<|?_
  refine T.cond_p rfl iff_b (fun h15 h16=>?_) (fun h15 h16=>?_)
  ·refine .seq<|.region<|.p (sg rfl)<|.nil<|.seq<|.ret<|.block_ret<|.seq_ret<|fin_1 (.inr rfl) (.nil _) results131 (.t rfl) (AVle.refl _)
  ·refine .seq<|?_
   refine T.cut (X:=Bool) (fun x=>r04_Cmp_j2 x10 x11 x) (fun x=>(mkS [(5,some (.ptr 2 0)),(6,some (.ptr 3 0)),(25,some (.bool x))] [(2,(.live 24 [(.bool ((x10).Neg)),(slK (kInt .u32) ((x10).Mag))])),(3,(.live 24 [(.bool ((x11).Neg)),(slK (kInt .u32) ((x11).Mag))]))])) ?_ ?_
   ·rintro y16
    dsimp only [r04_Cmp_j2]
    refine .seq<|?_
    refine T.cond_p rfl iff_b (fun h18 h19=>?_) (fun h18 h19=>?_)
    ·refine .seq<|.region<|.p (sg rfl)<|.nil<|.seq<|.ret<|.block_ret<|.seq_ret<|fin_1 (.inr rfl) (.nil _) results131 (.t rfl) (AVle.refl _)
    ·refine .seq<|.region<|.p (fa 0 fl24_0 rfl)<|.p (ls sc4 rfl)<|.p (sg rfl)<|.nil<|.seq<|?_
     refine T.cond_p rfl iff_b (fun h20 h21=>?_) (fun h20 h21=>?_)
     ·refine .seq<|.region<|.p (fa 1 fl24_1 rfl)<|.p (ls sc22 rfl)<|.p (fa 1 fl24_1 rfl)<|.p (ls sc22 rfl)<|.bind fun x17 h22=>.p (c0 (r01_Cmp_p h22) rfl)<|.p (sg rfl)<|.nil<|.seq<|.ret<|.block_ret<|.seq_ret<|fin_1 (.inr rfl) (.nil _) results131 (.t rfl) (AVle.refl _)
     ·refine .skip<|.block<|.seq<|.seq<|.region<|.p (fa 1 fl24_1 rfl)<|.p (ls sc22 rfl)<|.p (fa 1 fl24_1 rfl)<|.p (ls sc22 rfl)<|.bind fun x18 h23=>.p (c0 (r01_Cmp_p h23) rfl)<|.p (sg rfl)<|.nil<|.seq<|?_
      refine .ret<|fin_1 (.inr rfl) (.nil _) results131 (.t rfl) (AVle.refl _)
   ·intro h24
    refine .region<|.p (fa 0 fl24_0 rfl)<|.p (ls sc4 rfl)<|.p (un rfl)<|.p (mv rfl)<|?_
    refine TR.gd 29 _ rfl iff_nb (fun h25=>?_) (fun h25=>?_)
    ·refine .p (fa 0 fl24_0 rfl)<|.p (ls sc4 rfl)<|.p (pt rfl)<|.p (sg rfl)<|.nil<|.weak (h24 (x11).Neg) (jn (m:=0) [(2,2),(3,3)] hE (.p rfl rfl<|.p rfl rfl<|.b rfl<|.nil) (.v rfl (.b<|.l<|.nil)<|.v rfl (.b<|.l<|.nil)<|.nil) rfl)
    ·refine .k rfl<|.k rfl<|.p (pf rfl)<|.p (sg rfl)<|.nil<|.weak (h24 false) (jn (m:=0) [(2,2),(3,3)] hE (.p rfl rfl<|.p rfl rfl<|.b rfl<|.nil) (.v rfl (.b<|.l<|.nil)<|.v rfl (.b<|.l<|.nil)<|.nil) rfl)
 ·intro h26
  refine .region<|.p (fa 0 fl24_0 rfl)<|.p (ls sc4 rfl)<|.p (mv rfl)<|?_
  refine TR.gd 20 _ rfl iff_b (fun h27=>?_) (fun h27=>?_)
  ·refine .p (fa 0 fl24_0 rfl)<|.p (ls sc4 rfl)<|.p (un rfl)<|.p (pt rfl)<|.p (sg rfl)<|.nil<|.weak (h26 (!((x11).Neg))) (jn (m:=0) [(2,2),(3,3)] hE (.p rfl rfl<|.p rfl rfl<|.b rfl<|.nil) (.v rfl (.b<|.l<|.nil)<|.v rfl (.b<|.l<|.nil)<|.nil) rfl)
  ·refine .k rfl<|.k rfl<|.k rfl<|.p (pf rfl)<|.p (sg rfl)<|.nil<|.weak (h26 false) (jn (m:=0) [(2,2),(3,3)] hE (.p rfl rfl<|.p rfl rfl<|.b rfl<|.nil) (.v rfl (.b<|.l<|.nil)<|.v rfl (.b<|.l<|.nil)<|.nil) rfl)
theorem r04_Cmp_p {a0:ApiInt} {a1:ApiInt} {r:Int} (h:r04_Cmp a0 a1=some r):Pur Tryz.prog 131 [(.agg (kN.enc a0)),(.agg (kN.enc a1))] (.int .i64 r):=⟨⟨_,func131,nm131,rfl⟩,r04_Cmp_c a0 a1 _ h,fun _=>(.a kN<|.a kN<|.nil),fun _=>(.int _ _)⟩
theorem r01_Bits_c (a0:List Int):∀ r,r01_Bits a0=some r→ACalls Tryz.prog 183 [(slK (kInt .u32) a0)] (lw []) (.int .i64 r) (ld []):=by
 unfold r01_Bits
 refine go 0 func183 ntmps183 rfl ?_
 intro E hE
 refine .seq<|.region<|.p (sg rfl)<|.nil<|.seq<|.seq<|.region<|.p (mv rfl)<|.bind fun x11 h1=>.p (c0 (r01_Trim_p h1) rfl)<|.p (sg rfl)<|.nil<|.seq<|.seq<|?_
 refine .seq<|.region<|.p (mv rfl)<|.p (ln underlying22 rfl)<|.p (ar rfl)<|.nil<|.seq<|?_
 refine T.cond_p rfl iff_eq (fun h2 h3=>?_) (fun h2 h3=>?_)
 ·refine .seq<|.region<|.p (sg rfl)<|.nil<|.seq<|.ret<|.seq_ret<|fin_1 (.inr rfl) (.nil _) results183 (.t rfl) (AVle.refl _)
 ·refine .skip<|.seq<|.seq<|.region<|.p (mv rfl)<|.p (ln underlying22 rfl)<|.p (ar rfl)<|.p (ar rfl)<|.p (sg rfl)<|.nil<|.seq<|.seq<|.seq<|.region<|?_
  refine .p (mv rfl)<|.p (mv rfl)<|.p (ln underlying22 rfl)<|.p (ar rfl)<|.guard fun h4=>?_
  refine TR.st 19 (.iptr [(.int .u32 (x11.getD ((IntKind.i64.wrap ((x11.length:Int)-1)).toNat) (kInt .u32).z))]) [] (snd_indexK (kInt .u32) _ _ _ _ _ _ (IntKind.i64.wrap ((x11.length:Int)-1)) rfl underlying22 si77 rfl rfl rfl rfl h4) rfl rfl rfl ?_
  refine .p (lsi sc77 rfl)<|.p (sg rfl)<|.nil<|.seq<|?_
  refine T.cut (X:=Int) (fun x=>r01_Bits_j1 x) (fun x=>(mkS [(4,some (.int .i64 x))] [])) ?_ ?_
  ·rintro y16
   dsimp only [r01_Bits_j1]
   refine .seq<|.seq<|.region<|.p (mv rfl)<|.p (sg rfl)<|.nil<|.seq<|.ret<|fin_1 (.inr rfl) (.nil _) results183 (.t rfl) (AVle.refl _)
  ·intro h11
   refine .block<|.loopW (X:=Int × Int) (fun n x=>r01_Bits_l2 n x.1 x.2) (fun x=>(mkS [(4,some (.int .i64 x.1)),(5,some (.int .u32 x.2))] [])) ((IntKind.i64.wrap (32*(IntKind.i64.wrap ((x11.length:Int)-1)))),(x11.getD ((IntKind.i64.wrap ((x11.length:Int)-1)).toNat) (kInt .u32).z)) (jn (m:=0) [] hE (.i rfl<|.i rfl<|.nil) .nil rfl) (fun _=>rfl) rfl<|?_
   rintro n2 ⟨y19,y20⟩
   try dsimp only
   rw [r01_Bits_l2]
   refine .seq<|.seq<|.region<|.p (mv rfl)<|.p (ar rfl)<|.nil<|.seq<|?_
   refine T.cond_p rfl iff_dec (fun h16 h17=>?_) (fun h16 h17=>?_)
   ·refine .skip<|.seq<|.seq<|.block<|.region<|.p (mv rfl)<|.p (ar rfl)<|.p (sg rfl)<|.nil<|.block<|.seq<|.region<|.p (mv rfl)<|?_
    refine TR.st 24 (.int .u32 (shrI .u32 y20 1)) [] (snd_shr _ _ _ _ _ _ _ _ rfl rfl rfl rfl rfl (by decide)) rfl rfl rfl ?_
    refine .p (sg rfl)<|.nil<|.again ((IntKind.i64.wrap (y19+1)),(shrI .u32 y20 1)) (jn (m:=0) [] hE (.i rfl<|.i rfl<|.nil) .nil rfl) rfl
   ·refine .exit<|.seq_exit<|.loop_exit<|.block_exit<|.weak (h11 y19) (jn (m:=0) [] hE (.i rfl<|.nil) .nil rfl)
theorem r01_Bits_p {a0:List Int} {r:Int} (h:r01_Bits a0=some r):Pur Tryz.prog 183 [(slK (kInt .u32) a0)] (.int .i64 r):=⟨⟨_,func183,nm183,rfl⟩,r01_Bits_c a0 _ h,fun _=>(.l<|.nil),fun _=>(.int _ _)⟩
theorem r05_size_c (a0:AD):∀ r,r05_size a0=some r→ACalls Tryz.prog 132 [(.agg (kD.enc a0))] (lw []) (.int .i64 r) (ld []):=by
 unfold r05_size
 refine go 0 func132 ntmps132 rfl ?_
 intro E hE
 refine .seq<|.region<|.w (bx 0 rfl)<|.p (sg rfl)<|.nil<|.seq<|.seq<|.draw mixed<|.p (fa 2 fl26_1 rfl)<|.p (ls sc3 rfl)<|.p (fa 0 fl26_0 rfl)<|.p (fa 1 fl24_1 rfl)<|.p (ls sc22 rfl)<|.bind fun x2 h1=>?_
 refine .p (c0 (r01_Bits_p h1) rfl)<|.p (ar rfl)<|.p (sg rfl)<|.nil (by kernel_rfl)<|.seq<|.ret<|fin_1 (.inr rfl) (.nil _) results132 (.t rfl) (AVle.refl _)
theorem r05_size_p {a0:AD} {r:Int} (h:r05_size a0=some r):Pur Tryz.prog 132 [(.agg (kD.enc a0))] (.int .i64 r):=⟨⟨_,func132,nm132,rfl⟩,r05_size_c a0 _ h,fun _=>(.a kD<|.nil),fun _=>(.int _ _)⟩
theorem r01_Shl_c (a0:List Int) (a1:Int):∀ r,r01_Shl a0 a1=some r→ACalls Tryz.prog 205 [(slK (kInt .u32) a0),(.int .i64 a1)] (lw []) (.tup [(slK (kInt .u32) r.1),(.bool r.2)]) (ld []):=by
 unfold r01_Shl
 refine go 0 func205 ntmps205 rfl ?_
 intro E hE
 refine .seq<|.region<|.p (sg rfl)<|.p (sg rfl)<|.nil<|.seq<|.seq<|.seq<|?_
 refine T.cut (X:=Bool) (fun x=>r01_Shl_j1 a1 a0 x) (fun x=>(mkS [(0,some (slK (kInt .u32) a0)),(1,some (.int .i64 a1)),(15,some (.bool x))] [])) ?_ ?_
 ·rintro y17
  dsimp only [r01_Shl_j1]
  refine .seq<|?_
  refine T.cond_p rfl iff_b (fun h2 h3=>?_) (fun h2 h3=>?_)
  ·refine .seq<|.region<|.p (sg rfl)<|.p (sg rfl)<|.nil<|.seq<|.ret<|.seq_ret<|fin_2 (.inr rfl) (.nil _) results205 (.t rfl) (.t rfl) (.tup (.cons AVle.nil (.cons (AVle.refl _) .nil)))
  ·refine .skip<|.seq<|.seq<|.region<|.p (mv rfl)<|?_
   refine TR.st 17 (.int .i64 (IntKind.i64.wrap (a1.tdiv 32))) [] (snd_quo _ _ _ _ _ _ _ rfl rfl rfl rfl rfl (by decide)) rfl rfl rfl ?_
   refine .guard fun h4=>?_
   refine TR.st 18 (.row 0 (kInt .u32).sz 0 (((List.replicate ((IntKind.i64.wrap (a1.tdiv 32)).toNat) (kInt .u32).z)).length)) [(0,(rwK (kInt .u32) 77 (List.replicate ((IntKind.i64.wrap (a1.tdiv 32)).toNat) (kInt .u32).z)))] (snd_makeK (kInt .u32) _ _ _ _ _ 0 _ _ _ rfl underlying22 ze77 sb77 (by decide) rfl rfl rfl rfl rfl h4) rfl rfl rfl ?_
   refine .p (sg rfl)<|.nil<|.seq<|.seq<|.region<|.p (sg rfl)<|.nil<|.seq<|.seq<|.seq<|.region<|.p (sg rfl)<|.nil<|.seq<|?_
   refine T.cut (X:=Int × (List Int)) (fun x=>r01_Shl_j2 x.1 x.2) (fun x=>(mkS [(6,some (.row 0 (kInt .u32).sz 0 ((x.2).length))),(7,some (.int .u64 x.1))] [(0,(rwK (kInt .u32) 77 x.2))])) ?_ ?_
   ·rintro ⟨y24,y25⟩
    dsimp only [r01_Shl_j2]
    refine .seq<|.seq<|.region<|.p (mv rfl)<|.p (mv rfl)<|.p (cv underlying117 underlying77 rfl)<|?_
    refine TR.st 45 (slK (kInt .u32) [(IntKind.u32.wrap y24)]) [] (snd_buildSlice _ _ _ 1 _ _ [(0,(.int .u32 (IntKind.u32.wrap y24)))] (List.map (kInt .u32).enc [(IntKind.u32.wrap y24)]) rfl underlying22 ze77 si77 rfl rfl rfl (by decide) (by decide) (by decide) rfl rfl (Kd.even _) rfl) rfl rfl rfl ?_
    refine .guard fun h29=>?_
    refine TR.st 46 (.row 1 (kInt .u32).sz 0 (((y25++[(IntKind.u32.wrap y24)])).length)) [(1,(rwK (kInt .u32) 77 (y25++[(IntKind.u32.wrap y24)]))),(0,.dead)] (snd_appendK (kInt .u32) _ _ _ _ _ 0 1 y25 [(IntKind.u32.wrap y24)] rfl underlying22 ze77 sb77 rfl rfl rfl rfl rfl rfl h29) rfl rfl rfl ?_
    refine TR.weak ?_ (fun a w h=>Conc.freezeK (kInt .u32) h 46 1 0 (((y25++[(IntKind.u32.wrap y24)])).length) 77 (y25++[(IntKind.u32.wrap y24)]) rfl rfl (by omega))
    refine TR.weak ?_ (fun a w h=>take_all h)
    refine .bind fun x26 h30=>.p (c0 (r01_Trim_p h30) rfl)<|.p (sg rfl)<|.p (sg rfl)<|.nil<|.seq<|.ret<|fin_2 (.inr rfl) (.nil _) results205 (.t rfl) (.t rfl) (AVle.refl _)
   ·intro h31
    refine .block<|.loopW (X:=Int × Int × (List Int)) (fun n x=>r01_Shl_l3 a0 a1 n x.1 x.2.1 x.2.2) (fun x=>(mkS [(0,some (slK (kInt .u32) a0)),(1,some (.int .i64 a1)),(6,some (.row 0 (kInt .u32).sz 0 ((x.2.2).length))),(7,some (.int .u64 x.1)),(8,some (.int .i64 x.2.1))] [(0,(rwK (kInt .u32) 77 x.2.2))])) (0,0,(List.replicate ((IntKind.i64.wrap (a1.tdiv 32)).toNat) (kInt .u32).z)) (jn (m:=0) [(0,0)] hE (.l rfl<|.i rfl<|.g rfl (.row _ _ _ _ _ rfl)<|.i rfl<|.i rfl<|.nil) (.cons (.refl _) (renV_rw _ _)<|.nil) rfl) (fun _=>rfl) rfl<|?_
    rintro n3 ⟨y30,y31,y32⟩
    try dsimp only
    rw [r01_Shl_l3]
    refine .seq<|.seq<|.region<|.p (mv rfl)<|.p (mv rfl)<|.p (ln underlying22 rfl)<|.p (ar rfl)<|.nil<|.seq<|?_
    refine T.cond_p rfl iff_dec (fun h48 h49=>?_) (fun h48 h49=>?_)
    ·refine .skip<|.seq<|.seq<|.block<|.seq<|.region<|.p (mv rfl)<|.p (mv rfl)<|.guard fun h53=>?_
     refine TR.st 27 (.iptr [(.int .u32 (a0.getD y31.toNat (kInt .u32).z))]) [] (snd_indexK (kInt .u32) _ _ _ _ _ _ y31 rfl underlying22 si77 rfl rfl rfl rfl h53) rfl rfl rfl ?_
     refine .p (lsi sc77 rfl)<|.p (cv underlying77 underlying117 rfl)<|.p (mv rfl)<|?_
     refine TR.st 31 (.int .i64 (a1.tmod 32)) [] (snd_rem _ _ _ _ _ _ _ rfl rfl rfl rfl rfl (by decide)) rfl rfl rfl ?_
     refine .guard fun h54=>?_
     refine TR.st 32 (.int .u64 (shlI .u64 (IntKind.u64.wrap (a0.getD y31.toNat (kInt .u32).z)) (a1.tmod 32))) [] (snd_shl _ _ _ _ _ _ _ _ rfl rfl rfl rfl rfl h54) rfl rfl rfl ?_
     refine .p (mv rfl)<|.p (ar rfl)<|.p (sg rfl)<|.nil<|.seq<|.seq<|.region<|.p (mv rfl)<|.p (mv rfl)<|.p (cv underlying117 underlying77 rfl)<|?_
     refine TR.st 38 (slK (kInt .u32) [(IntKind.u32.wrap (orI .u64 (shlI .u64 (IntKind.u64.wrap (a0.getD y31.toNat (kInt .u32).z)) (a1.tmod 32)) y30))]) [] (snd_buildSlice _ _ _ 1 _ _ [(0,(.int .u32 (IntKind.u32.wrap (orI .u64 (shlI .u64 (IntKind.u64.wrap (a0.getD y31.toNat (kInt .u32).z)) (a1.tmod 32)) y30))))] (List.map (kInt .u32).enc [(IntKind.u32.wrap (orI .u64 (shlI .u64 (IntKind.u64.wrap (a0.getD y31.toNat (kInt .u32).z)) (a1.tmod 32)) y30))]) rfl underlying22 ze77 si77 rfl rfl rfl (by decide) (by decide) (by decide) rfl rfl (Kd.even _) rfl) rfl rfl rfl ?_
     refine .guard fun h55=>?_
     refine TR.st 39 (.row 1 (kInt .u32).sz 0 (((y32++[(IntKind.u32.wrap (orI .u64 (shlI .u64 (IntKind.u64.wrap (a0.getD y31.toNat (kInt .u32).z)) (a1.tmod 32)) y30))])).length)) [(1,(rwK (kInt .u32) 77 (y32++[(IntKind.u32.wrap (orI .u64 (shlI .u64 (IntKind.u64.wrap (a0.getD y31.toNat (kInt .u32).z)) (a1.tmod 32)) y30))]))),(0,.dead)] (snd_appendK (kInt .u32) _ _ _ _ _ 0 1 y32 [(IntKind.u32.wrap (orI .u64 (shlI .u64 (IntKind.u64.wrap (a0.getD y31.toNat (kInt .u32).z)) (a1.tmod 32)) y30))] rfl underlying22 ze77 sb77 rfl rfl rfl rfl rfl rfl h55) rfl rfl rfl ?_
     refine .p (sg rfl)<|.nil<|.seq<|.region<|.p (mv rfl)<|?_
     refine TR.st 41 (.int .u64 (shrI .u64 (orI .u64 (shlI .u64 (IntKind.u64.wrap (a0.getD y31.toNat (kInt .u32).z)) (a1.tmod 32)) y30) 32)) [] (snd_shr _ _ _ _ _ _ _ _ rfl rfl rfl rfl rfl (by decide)) rfl rfl rfl ?_
     refine .p (sg rfl)<|.nil<|.block<|.seq<|.region<|.p (mv rfl)<|.p (ar rfl)<|.p (sg rfl)<|.nil<|.again ((shrI .u64 (orI .u64 (shlI .u64 (IntKind.u64.wrap (a0.getD y31.toNat (kInt .u32).z)) (a1.tmod 32)) y30) 32),(IntKind.i64.wrap (y31+1)),(y32++[(IntKind.u32.wrap (orI .u64 (shlI .u64 (IntKind.u64.wrap (a0.getD y31.toNat (kInt .u32).z)) (a1.tmod 32)) y30))])) (jn (m:=0) [(1,0)] hE (.l rfl<|.i rfl<|.g rfl (.row _ _ _ _ _ rfl)<|.i rfl<|.i rfl<|.nil) (.cons (.refl _) (renV_rw _ _)<|.nil) rfl) rfl
    ·refine .exit<|.seq_exit<|.loop_exit<|.block_exit<|.weak (h31 (y30,y32)) (jn (m:=0) [(0,0)] hE (.g rfl (.row _ _ _ _ _ rfl)<|.i rfl<|.nil) (.cons (.refl _) (renV_rw _ _)<|.nil) rfl)
 ·intro h56
  refine .region<|.p (mv rfl)<|.p (ar rfl)<|.p (mv rfl)<|?_
  refine TR.gd 12 _ rfl iff_dec (fun h57=>?_) (fun h57=>?_)
  ·refine .k rfl<|.k rfl<|.p (pt rfl)<|.nil<|.weak (h56 true) (jn (m:=0) [] hE (.l rfl<|.i rfl<|.b rfl<|.nil) .nil rfl)
  ·refine .p (mv rfl)<|.p (ar rfl)<|.p (pf rfl)<|.nil<|.weak (h56 (decide (a1>100000))) (jn (m:=0) [] hE (.l rfl<|.i rfl<|.b rfl<|.nil) .nil rfl)
theorem r01_Shl_p {a0:List Int} {a1:Int} {r:(List Int) × Bool} (h:r01_Shl a0 a1=some r):Pur Tryz.prog 205 [(slK (kInt .u32) a0),(.int .i64 a1)] (.tup [(slK (kInt .u32) r.1),(.bool r.2)]):=⟨⟨_,func205,nm205,rfl⟩,r01_Shl_c a0 a1 _ h,fun _=>(.l<|.i<|.nil),fun _=>(ren_tupL (.l<|.b<|.nil))⟩
theorem r05_up_c (a0:ApiInt) (a1:Int):∀ r,r05_up a0 a1=some r→ACalls Tryz.prog 184 [(.agg (kN.enc a0)),(.int .i64 a1)] (lw []) (.agg (kN.enc (r))) (ld []):=by
 unfold r05_up
 refine go 0 func184 ntmps184 rfl ?_
 intro E hE
 refine .seq<|.region<|.w (bx 0 rfl)<|.w (al 1 ze24 rfl)<|.nil<|.seq<|.seq<|.region<|.p (fa 1 fl24_1 rfl)<|.p (ls sc22 rfl)<|.p (sg rfl)<|.nil<|.seq<|.seq<|?_
 refine T.cut (X:=(List Int)) (fun x=>r05_up_j1 a0 x) (fun x=>(mkS [(2,some (.ptr 0 0)),(4,some (.ptr 1 0)),(5,some (slK (kInt .u32) x))] [(0,(.live 24 [(.bool a0.Neg),(slK (kInt .u32) a0.Mag)])),(1,(.live 24 [(.bool false),(slK (kInt .u32) [])]))])) ?_ ?_
 ·rintro y33
  dsimp only [r05_up_j1]
  refine .seq<|.seq<|.region<|.p (fa 0 fl24_0 rfl)<|.p (ls sc4 rfl)<|.p (mv rfl)<|.bind fun x34 h13=>.p (c0 (r04_Make_p h13) rfl)<|.n (sa ag24 rfl)<|.nil<|.seq<|.ret<|fin_1 (.inr rfl) (.nil _) results184 (.a ag24 rfl) (AVle.refl _)
 ·intro h14
  refine .block<|.loopW (X:=Int × (List Int)) (fun n x=>r05_up_l2 a0 n x.1 x.2) (fun x=>(mkS [(1,some (.int .i64 x.1)),(2,some (.ptr 0 0)),(4,some (.ptr 1 0)),(5,some (slK (kInt .u32) x.2))] [(0,(.live 24 [(.bool a0.Neg),(slK (kInt .u32) a0.Mag)])),(1,(.live 24 [(.bool false),(slK (kInt .u32) [])]))])) (a1,a0.Mag) (jn (m:=0) [(0,0),(1,1)] hE (.i rfl<|.p rfl rfl<|.p rfl rfl<|.l rfl<|.nil) (.v rfl (.b<|.l<|.nil)<|.v rfl (.b<|.l<|.nil)<|.nil) rfl) (fun _=>rfl) rfl<|?_
  rintro n2 ⟨y41,y42⟩
  try dsimp only
  rw [r05_up_l2]
  refine .seq<|.seq<|.region<|.p (mv rfl)<|.p (ar rfl)<|.nil<|.seq<|?_
  refine T.cond_p rfl iff_dec (fun h23 h24=>?_) (fun h23 h24=>?_)
  ·refine .skip<|.seq<|.block<|.seq<|.region<|.p (mv rfl)<|?_
   refine TR.st 12 (.int .i64 (mn y41 100000)) [] (snd_min _ _ _ _ _ _ rfl rfl rfl rfl rfl) rfl rfl rfl ?_
   refine .p (sg rfl)<|.nil<|.seq<|.seq<|.region<|.p (mv rfl)<|.p (mv rfl)<|.bind fun x44 h26=>.p (c0 (r01_Shl_p h26) rfl)<|.p (mv rfl)<|.p (xt rfl)<|.p (xt rfl)<|.p (sg rfl)<|.nil<|?_
   refine .seq<|.region<|.p (mv rfl)<|.p (mv rfl)<|.p (ar rfl)<|.p (sg rfl)<|.nil<|.block<|.again ((IntKind.i64.wrap (y41-(mn y41 100000))),x44.1) (jn (m:=0) [(0,0),(1,1)] hE (.i rfl<|.p rfl rfl<|.p rfl rfl<|.l rfl<|.nil) (.v rfl (.b<|.l<|.nil)<|.v rfl (.b<|.l<|.nil)<|.nil) rfl) rfl
  ·refine .exit<|.seq_exit<|.loop_exit<|.block_exit<|.weak (h14 y42) (jn (m:=0) [(0,0),(1,1)] hE (.p rfl rfl<|.p rfl rfl<|.l rfl<|.nil) (.v rfl (.b<|.l<|.nil)<|.v rfl (.b<|.l<|.nil)<|.nil) rfl)
theorem r05_up_p {a0:ApiInt} {a1:Int} {r:ApiInt} (h:r05_up a0 a1=some r):Pur Tryz.prog 184 [(.agg (kN.enc a0)),(.int .i64 a1)] (.agg (kN.enc (r))):=⟨⟨_,func184,nm184,rfl⟩,r05_up_c a0 a1 _ h,fun _=>(.a kN<|.i<|.nil),fun _=>(ren_agg (K:=kN) _)⟩
theorem r05_lift_c (a0:AD) (a1:AD):∀ r,r05_lift a0 a1=some r→ACalls Tryz.prog 133 [(.agg (kD.enc a0)),(.agg (kD.enc a1))] (lw []) (.tup [(.agg (kN.enc (r.1))),(.agg (kN.enc (r.2.1))),(.int .i64 r.2.2)]) (ld []):=by
 unfold r05_lift
 refine go 0 func133 ntmps133 rfl ?_
 intro E hE
 refine .seq<|.region<|.w (bx 0 rfl)<|.w (bx 1 rfl)<|.w (al 2 ze24 rfl)<|.w (al 3 ze24 rfl)<|.p (sg rfl)<|.nil<|.seq<|.seq<|.block<|.seq<|.region<|.p (fa 0 fl26_0 rfl)<|?_
 refine .p (fa 1 fl24_1 rfl)<|.p (ls sc22 rfl)<|.p (ln underlying22 rfl)<|.p (ar rfl)<|.p (sg rfl)<|.nil<|.seq<|?_
 refine T.cond_p rfl iff_eq (fun h8 h9=>?_) (fun h8 h9=>?_)
 ·refine .seq<|.draw mixed<|.p (bd ze24 pl24 rfl)<|.p (fa 0 fl26_0 rfl)<|.p (la ag24 rfl)<|.p (fa 2 fl26_1 rfl)<|.p (ls sc3 rfl)<|.n (sa ag24 rfl)<|.n (sa ag24 rfl)<|.p (sg rfl)<|.nil (by kernel_rfl)<|.seq<|.ret<|.block_ret<|?_
  refine .seq_ret<|fin_3 (.inr rfl) (.nil _) results133 (.a ag24 rfl) (.a ag24 rfl) (.t rfl) (AVle.refl _)
 ·refine .seq<|.region<|.p (fa 0 fl26_0 rfl)<|.p (fa 1 fl24_1 rfl)<|.p (ls sc22 rfl)<|.p (ln underlying22 rfl)<|.p (ar rfl)<|.p (sg rfl)<|.nil<|.seq<|?_
  refine T.cond_p rfl iff_eq (fun h10 h11=>?_) (fun h10 h11=>?_)
  ·refine .seq<|.draw mixed<|.p (fa 0 fl26_0 rfl)<|.p (la ag24 rfl)<|.p (bd ze24 pl24 rfl)<|.p (fa 2 fl26_1 rfl)<|.p (ls sc3 rfl)<|.n (sa ag24 rfl)<|.n (sa ag24 rfl)<|.p (sg rfl)<|.nil (by kernel_rfl)<|.seq<|.ret<|.block_ret<|?_
   refine .seq_ret<|fin_3 (.inr rfl) (.nil _) results133 (.a ag24 rfl) (.a ag24 rfl) (.t rfl) (AVle.refl _)
  ·refine .seq<|.region<|.p (fa 2 fl26_1 rfl)<|.p (ls sc3 rfl)<|.p (fa 2 fl26_1 rfl)<|.p (ls sc3 rfl)<|.p (ar rfl)<|.p (sg rfl)<|.nil<|.seq<|?_
   refine T.cond_p rfl iff_dec (fun h12 h13=>?_) (fun h12 h13=>?_)
   ·refine .seq<|.draw mixed<|.p (fa 0 fl26_0 rfl)<|.p (la ag24 rfl)<|.p (fa 2 fl26_1 rfl)<|.p (ls sc3 rfl)<|.p (fa 2 fl26_1 rfl)<|.p (ls sc3 rfl)<|.p (ar rfl)<|.bind fun x5 h14=>.p (c0 (r05_up_p h14) rfl)<|.p (fa 0 fl26_0 rfl)<|.p (la ag24 rfl)<|.p (fa 2 fl26_1 rfl)<|?_
    refine .p (ls sc3 rfl)<|.n (sa ag24 rfl)<|.n (sa ag24 rfl)<|.p (sg rfl)<|.nil (by kernel_rfl)<|.seq<|.ret<|.block_ret<|.seq_ret<|fin_3 (.inr rfl) (.nil _) results133 (.a ag24 rfl) (.a ag24 rfl) (.t rfl) (AVle.refl _)
   ·refine .skip<|.block<|.seq<|.seq<|.draw mixed<|.p (fa 0 fl26_0 rfl)<|.p (la ag24 rfl)<|.p (fa 0 fl26_0 rfl)<|.p (la ag24 rfl)<|.p (fa 2 fl26_1 rfl)<|.p (ls sc3 rfl)<|.p (fa 2 fl26_1 rfl)<|.p (ls sc3 rfl)<|.p (ar rfl)<|?_
    refine .bind fun x6 h15=>.p (c0 (r05_up_p h15) rfl)<|.p (fa 2 fl26_1 rfl)<|.p (ls sc3 rfl)<|.n (sa ag24 rfl)<|.n (sa ag24 rfl)<|.p (sg rfl)<|.nil (by kernel_rfl)<|.seq<|.ret<|fin_3 (.inr rfl) (.nil _) results133 (.a ag24 rfl) (.a ag24 rfl) (.t rfl) (AVle.refl _)
theorem r05_lift_p {a0:AD} {a1:AD} {r:ApiInt × ApiInt × Int} (h:r05_lift a0 a1=some r):Pur Tryz.prog 133 [(.agg (kD.enc a0)),(.agg (kD.enc a1))] (.tup [(.agg (kN.enc (r.1))),(.agg (kN.enc (r.2.1))),(.int .i64 r.2.2)]):=⟨⟨_,func133,nm133,rfl⟩,r05_lift_c a0 a1 _ h,fun _=>(.a kD<|.a kD<|.nil),fun _=>(ren_tupL (.a kN<|.a kN<|.i<|.nil))⟩
theorem r05_Cmp_c (a0:AD) (a1:AD):∀ r,r05_Cmp a0 a1=some r→ACalls Tryz.prog 74 [(.agg (kD.enc a0)),(.agg (kD.enc a1))] (lw []) (.int .i64 r) (ld []):=by
 unfold r05_Cmp
 refine go 0 func74 ntmps74 rfl ?_
 intro E hE
 refine .seq<|.region<|.w (bx 0 rfl)<|.w (bx 1 rfl)<|.p (sg rfl)<|.nil<|.seq<|.seq<|.region<|.p (la ag26 rfl)<|.bind fun x12 h1=>.p (c0 (r05_Right_p h1) rfl)<|.p (sg rfl)<|.nil<|?_
 refine .seq<|.seq<|.region<|.p (la ag26 rfl)<|.bind fun x13 h2=>.p (c0 (r05_Right_p h2) rfl)<|.p (sg rfl)<|.nil<|.seq<|.seq<|.seq<|?_
 refine T.cut (X:=Bool) (fun x=>r05_Cmp_j1 a0 a1 x) (fun x=>(mkS [(2,some (.ptr 0 0)),(3,some (.ptr 1 0)),(19,some (.bool x))] [(0,(.live 26 [(.bool a0.M.Neg),(slK (kInt .u32) a0.M.Mag),(.int .i64 a0.E)])),(1,(.live 26 [(.bool a1.M.Neg),(slK (kInt .u32) a1.M.Mag),(.int .i64 a1.E)]))])) ?_ ?_
 ·rintro y14
  dsimp only [r05_Cmp_j1]
  refine .seq<|?_
  refine T.cond_p rfl iff_b (fun h4 h5=>?_) (fun h4 h5=>?_)
  ·refine .seq<|.region<|.p (sg rfl)<|.nil<|.seq<|.ret<|.seq_ret<|fin_1 (.inr rfl) (.nil _) results74 (.t rfl) (AVle.refl _)
  ·refine .skip<|.seq<|.seq<|.seq<|?_
   refine T.cut (X:=Bool) (fun x=>r05_Cmp_j2 a0 a1 x) (fun x=>(mkS [(2,some (.ptr 0 0)),(3,some (.ptr 1 0)),(40,some (.bool x))] [(0,(.live 26 [(.bool a0.M.Neg),(slK (kInt .u32) a0.M.Mag),(.int .i64 a0.E)])),(1,(.live 26 [(.bool a1.M.Neg),(slK (kInt .u32) a1.M.Mag),(.int .i64 a1.E)]))])) ?_ ?_
   ·rintro y15
    dsimp only [r05_Cmp_j2]
    refine .seq<|?_
    refine T.cond_p rfl iff_b (fun h8 h9=>?_) (fun h8 h9=>?_)
    ·refine .seq<|.region<|.p (fa 0 fl26_0 rfl)<|.p (la ag24 rfl)<|.p (fa 0 fl26_0 rfl)<|.p (la ag24 rfl)<|.bind fun x16 h10=>.p (c0 (r04_Cmp_p h10) rfl)<|.p (sg rfl)<|.nil<|.seq<|.ret<|.seq_ret<|fin_1 (.inr rfl) (.nil _) results74 (.t rfl) (AVle.refl _)
    ·refine .skip<|.seq<|.seq<|.seq<|.draw mixed<|.p (la ag26 rfl)<|.bind fun x17 h11=>.p (c0 (r05_size_p h11) rfl)<|.p (la ag26 rfl)<|.bind fun x18 h12=>.p (c0 (r05_size_p h12) rfl)<|.p (ar rfl)<|.nil (by kernel_rfl)<|.seq<|?_
     refine T.cond_p rfl iff_ne (fun h13 h14=>?_) (fun h13 h14=>?_)
     ·refine .seq<|.seq<|.draw mixed<|.p (la ag26 rfl)<|.bind fun x19 h15=>.p (c0 (r05_size_p h15) rfl)<|.p (la ag26 rfl)<|.bind fun x20 h16=>.p (c0 (r05_size_p h16) rfl)<|.p (ar rfl)<|.p (fa 0 fl26_0 rfl)<|.p (fa 0 fl24_0 rfl)<|.p (ls sc4 rfl)<|?_
      refine TD.st 59 (.bool ((decide (x19<x20)) == a0.M.Neg)) [] (snd_bool_eql _ _ _ _ _ _ rfl underlying4 rfl rfl rfl rfl) rfl rfl rfl ?_
      refine .nil (by kernel_rfl)<|.seq<|?_
      refine T.cond_p rfl iff_b (fun h17 h18=>?_) (fun h17 h18=>?_)
      ·refine .seq<|.region<|.p (sg rfl)<|.nil<|.seq<|.ret<|.seq_ret<|.seq_ret<|fin_1 (.inr rfl) (.nil _) results74 (.t rfl) (AVle.refl _)
      ·refine .skip<|.seq<|.seq<|.region<|.p (sg rfl)<|.nil<|.seq<|.ret<|.seq_ret<|fin_1 (.inr rfl) (.nil _) results74 (.t rfl) (AVle.refl _)
     ·refine .skip<|.seq<|.seq<|.region<|.p (la ag26 rfl)<|.p (la ag26 rfl)<|.bind fun x21 h19=>.p (c0 (r05_lift_p h19) rfl)<|.p (mv rfl)<|.p (xt rfl)<|.p (xt rfl)<|.p (xt rfl)<|.w (al 2 ze24 rfl)<|.w (al 3 ze24 rfl)<|?_
      refine .n (sa ag24 rfl)<|.n (sa ag24 rfl)<|.p (sg rfl)<|.nil<|.seq<|.seq<|.region<|.p (la ag24 rfl)<|.p (la ag24 rfl)<|.bind fun x22 h20=>.p (c0 (r04_Cmp_p h20) rfl)<|.p (sg rfl)<|.nil<|.seq<|?_
      refine .ret<|fin_1 (.inr rfl) (.nil _) results74 (.t rfl) (AVle.refl _)
   ·intro h21
    refine .region<|.p (fa 0 fl26_0 rfl)<|.p (fa 0 fl24_0 rfl)<|.p (ls sc4 rfl)<|.p (fa 0 fl26_0 rfl)<|.p (fa 0 fl24_0 rfl)<|.p (ls sc4 rfl)<|?_
    refine TR.st 26 (.bool (a0.M.Neg != a1.M.Neg)) [] (snd_bool_neq _ _ _ _ _ _ rfl underlying4 rfl rfl rfl rfl) rfl rfl rfl ?_
    refine .p (mv rfl)<|?_
    refine TR.gd 27 _ rfl iff_b (fun h22=>?_) (fun h22=>?_)
    ·refine .k rfl<|.k rfl<|.k rfl<|.k rfl<|.k rfl<|.p (pt rfl)<|.p (mv rfl)<|.k rfl<|.k rfl<|.k rfl<|.k rfl<|.k rfl<|.p (pt rfl)<|.nil<|.weak (h21 true) (jn (m:=0) [(0,0),(1,1)] hE (.p rfl rfl<|.p rfl rfl<|.b rfl<|.nil) (.v rfl (.b<|.l<|.i<|.nil)<|.v rfl (.b<|.l<|.i<|.nil)<|.nil) rfl)
    ·refine .p (fa 0 fl26_0 rfl)<|.p (fa 1 fl24_1 rfl)<|.p (ls sc22 rfl)<|.p (ln underlying22 rfl)<|.p (ar rfl)<|.p (pf rfl)<|.p (mv rfl)<|?_
     refine TR.gd 34 _ rfl iff_eq (fun h23=>?_) (fun h23=>?_)
     ·refine .k rfl<|.k rfl<|.k rfl<|.k rfl<|.k rfl<|.p (pt rfl)<|.nil<|.weak (h21 true) (jn (m:=0) [(0,0),(1,1)] hE (.p rfl rfl<|.p rfl rfl<|.b rfl<|.nil) (.v rfl (.b<|.l<|.i<|.nil)<|.v rfl (.b<|.l<|.i<|.nil)<|.nil) rfl)
     ·refine .p (fa 0 fl26_0 rfl)<|.p (fa 1 fl24_1 rfl)<|.p (ls sc22 rfl)<|.p (ln underlying22 rfl)<|.p (ar rfl)<|.p (pf rfl)<|.nil<|.weak (h21 ((a1.M.Mag.length:Int) == 0)) (jn (m:=0) [(0,0),(1,1)] hE (.p rfl rfl<|.p rfl rfl<|.b rfl<|.nil) (.v rfl (.b<|.l<|.i<|.nil)<|.v rfl (.b<|.l<|.i<|.nil)<|.nil) rfl)
 ·intro h24
  refine .region<|.p (mv rfl)<|.p (un rfl)<|.p (mv rfl)<|?_
  refine TR.gd 16 _ rfl iff_nb (fun h25=>?_) (fun h25=>?_)
  ·refine .k rfl<|.k rfl<|.p (pt rfl)<|.nil<|.weak (h24 true) (jn (m:=0) [(0,0),(1,1)] hE (.p rfl rfl<|.p rfl rfl<|.b rfl<|.nil) (.v rfl (.b<|.l<|.i<|.nil)<|.v rfl (.b<|.l<|.i<|.nil)<|.nil) rfl)
  ·refine .p (mv rfl)<|.p (un rfl)<|.p (pf rfl)<|.nil<|.weak (h24 (!x13)) (jn (m:=0) [(0,0),(1,1)] hE (.p rfl rfl<|.p rfl rfl<|.b rfl<|.nil) (.v rfl (.b<|.l<|.i<|.nil)<|.v rfl (.b<|.l<|.i<|.nil)<|.nil) rfl)
theorem r05_Cmp_p {a0:AD} {a1:AD} {r:Int} (h:r05_Cmp a0 a1=some r):Pur Tryz.prog 74 [(.agg (kD.enc a0)),(.agg (kD.enc a1))] (.int .i64 r):=⟨⟨_,func74,nm74,rfl⟩,r05_Cmp_c a0 a1 _ h,fun _=>(.a kD<|.a kD<|.nil),fun _=>(.int _ _)⟩
theorem l08_examples_c:∀ r,l08_examples=some r→ACalls Tryz.prog 59 [] (lw []) (.bool r) (ld []):=by
 unfold l08_examples
 refine go 0 func59 ntmps59 rfl ?_
 intro E hE
 refine .seq<|.region<|.p (sg rfl)<|.nil<|.seq<|.seq<|.region<|.bind fun x16 h1=>?_
 rcases x16 with x17 | x18
 ·dsimp only
  refine .w (cl (iv_New_k_0 h1) [] [0] [true] rfl (.i<|.nil) .nil (fresh_cons rfl fnil) (.cons .dead .nil) (ren_tupL (.cons .nilptr<|.i<|.nil)) (.turned .nil) rfl)<|.p (mv rfl)<|.p (xt rfl)<|.p (xt rfl)<|.p (sg rfl)<|.p (sg rfl)<|.nil<|.seq<|.seq<|.seq<|.region<|.p (mv rfl)<|?_
  refine TR.st 9 (.bool true) [] (snd_ptr_nil _ _ _ _ _ _ _ true true rfl underlying28 rfl rfl rfl (.inr ⟨rfl,rfl⟩) rfl (.inl ⟨rfl,rfl⟩)) rfl rfl rfl ?_
  refine .p (mv rfl)<|.k rfl<|.k rfl<|.p (pt rfl)<|.nil<|.seq<|.cond_t rfl<|.seq<|.region<|.p (sg rfl)<|.nil<|.seq<|.ret<|.seq_ret<|fin_1 (.inr rfl) (.nil _) results59 (.t rfl) (AVle.refl _)
 ·dsimp only
  refine .w (cl (iv_New_k_1 h1) [] [0] [true] rfl (.i<|.nil) .nil (fresh_cons rfl fnil) (.cons (.v (.i<|.i<|.nil)) .nil) (ren_tupL (.p rfl<|.i<|.nil)) (.turned .nil) rfl)<|.p (mv rfl)<|.p (xt rfl)<|.p (xt rfl)<|.p (sg rfl)<|.p (sg rfl)<|.nil<|.seq<|.seq<|.seq<|.region<|.p (mv rfl)<|?_
  refine TR.st 9 (.bool false) [] (snd_ptr_nil _ _ _ _ _ _ _ false false rfl underlying28 rfl rfl rfl (.inl ⟨⟨_,_,rfl⟩,rfl⟩) rfl (.inl ⟨rfl,rfl⟩)) rfl rfl rfl ?_
  refine .p (mv rfl)<|.p (mv rfl)<|.p (ar rfl)<|.p (pf rfl)<|.nil<|.seq<|?_
  refine T.cond_p rfl iff_ne (fun h2 h3=>?_) (fun h2 h3=>?_)
  ·refine .seq<|.region<|.p (sg rfl)<|.nil<|.seq<|.ret<|.seq_ret<|fin_1 (.inr rfl) (.nil _) results59 (.t rfl) (AVle.refl _)
  ·refine .skip<|.seq<|.seq<|.region<|.p (mv rfl)<|.bind fun x19 h4=>.w (cl (konst_Pi_k h4) [0] [] [true] rfl (.p rfl<|.nil) (.p rfl (.i<|.i<|.nil) .nil) fnil (.cons (.v (.i<|.i<|.nil)) .nil) (ren_agg (K:=kI) _) (.turned .nil) rfl)<|.w (al 1 ze34 rfl)<|.n (sa ag34 rfl)<|.nil<|.seq<|.seq<|?_
   refine T.cut (X:=Bool) (fun x=>l08_examples_j1 x) (fun x=>(mkS [(0,some (.bool x))] [])) ?_ ?_
   ·rintro y25
    dsimp only [l08_examples_j1]
    refine .seq<|.ret<|fin_1 (.inr rfl) (.nil _) results59 (.t rfl) (AVle.refl _)
   ·intro h12
    refine .draw mixed<|.p (mv rfl)<|.p (nc rfl)<|.p (fa 0 fl45_0 rfl)<|.bind fun x26 h13=>.p (cl (iv_trouble_Err_k h13) [0] [] [false] rfl (.p rfl<|.nil) (.p rfl (.i<|.i<|.nil) .nil) fnil (.cons (.v (.i<|.i<|.nil)) .nil) (.int _ _) (.kept rfl .nil) rfl)<|.p (ar rfl)<|.p (mv rfl)<|?_
    refine TD.gd 21 _ rfl iff_eq (fun h14=>?_) (fun h14=>?_)
    ·refine .bind fun x27 h15=>.p (c0 (r05_From_p h15) rfl)<|.p (fa 0 fl34_0 rfl)<|.p (la ag26 rfl)<|.bind fun x28 h16=>.p (c0 (r05_Cmp_p h16) rfl)<|.p (ar rfl)<|.p (pt rfl)<|.p (mv rfl)<|?_
     refine TD.gd 28 _ rfl iff_dec (fun h17=>?_) (fun h17=>?_)
     ·refine .p (fa 3 fl34_1 rfl)<|.p (la ag26 rfl)<|.bind fun x29 h18=>.p (c0 (r05_From_p h18) rfl)<|.bind fun x30 h19=>.p (c0 (r05_Cmp_p h19) rfl)<|.p (ar rfl)<|.p (pt rfl)<|.p (sg rfl)<|.nil (by kernel_rfl)<|.weak (h12 (decide (x30<0))) (jn (m:=0) [] hE (.b rfl<|.nil) .nil rfl)
     ·refine .k rfl<|.k rfl<|.k rfl<|.k rfl<|.k rfl<|.p (pf rfl)<|.p (sg rfl)<|.nil (by kernel_rfl)<|.weak (h12 false) (jn (m:=0) [] hE (.b rfl<|.nil) .nil rfl)
    ·refine .k rfl<|.k rfl<|.k rfl<|.k rfl<|.k rfl<|.p (pf rfl)<|.p (mv rfl)<|.k rfl<|.k rfl<|.k rfl<|.k rfl<|.k rfl<|.p (pf rfl)<|.p (sg rfl)<|?_
     refine .nil (by kernel_rfl)<|.weak (h12 false) (jn (m:=0) [] hE (.b rfl<|.nil) .nil rfl)
theorem l08_examples_p {r:Bool} (h:l08_examples=some r):Pur Tryz.prog 59 [] (.bool r):=⟨⟨_,func59,nm59,rfl⟩,l08_examples_c _ h,fun _=>.nil,fun _=>(.bool _)⟩
theorem r06_New_c (a0:Int):∀ r,r06_New a0=some r→ACalls Tryz.prog 48 [(.int .i64 a0)] (lw []) (match r with | (Sum.inl y)=>.nilptr | (Sum.inr y)=>(.ptr 0 0)) (ld (match r with | (Sum.inl y)=>[.dead] | (Sum.inr y)=>[(.live 65 [(.int .i64 y.1),(.int .i64 y.2)])])):=by
 unfold r06_New
 refine go 0 func48 ntmps48 rfl ?_
 intro E hE
 refine .seq<|.region<|.p (sg rfl)<|.nil<|.seq<|.seq<|.seq<|?_
 refine T.cut (X:=Bool) (fun x=>r06_New_j1 a0 x) (fun x=>(mkS [(0,some (.int .i64 a0)),(8,some (.bool x))] [])) ?_ ?_
 ·rintro y2
  dsimp only [r06_New_j1]
  refine .seq<|?_
  refine T.cond_p rfl iff_b (fun h2 h3=>?_) (fun h2 h3=>?_)
  ·refine .seq<|.region<|.p (sg rfl)<|.nil<|.seq<|.ret<|.seq_ret<|fin_1 (.inr rfl) (.d (.nil _)) results48 (.t rfl) (AVle.refl _)
  ·refine .skip<|.seq<|.seq<|.region<|.p (mv rfl)<|.p (bd ze65 pl65 rfl)<|.w (bx 0 rfl)<|.p (sg rfl)<|.nil<|.seq<|.ret<|fin_1 (.inr rfl) (.k rfl (.nil _)) results48 (.t rfl) (AVle.refl _)
 ·intro h4
  refine .region<|.p (mv rfl)<|.p (ar rfl)<|.p (mv rfl)<|?_
  refine TR.gd 5 _ rfl iff_dec (fun h5=>?_) (fun h5=>?_)
  ·refine .k rfl<|.k rfl<|.p (pt rfl)<|.nil<|.weak (h4 true) (jn (m:=0) [] hE (.i rfl<|.b rfl<|.nil) .nil rfl)
  ·refine .p (mv rfl)<|.p (ar rfl)<|.p (pf rfl)<|.nil<|.weak (h4 (decide (a0>400))) (jn (m:=0) [] hE (.i rfl<|.b rfl<|.nil) .nil rfl)
theorem r06_New_k_0 {a0:Int} {r:Unit} (h:r06_New a0=some (Sum.inl r)):Cal Tryz.prog 48 [(.int .i64 a0)] [] .nilptr [.dead]:=⟨⟨_,func48,nm48,rfl⟩,r06_New_c a0 _ h⟩
theorem r06_New_k_1 {a0:Int} {r:Int × Int} (h:r06_New a0=some (Sum.inr r)):Cal Tryz.prog 48 [(.int .i64 a0)] [] (.ptr 0 0) [(.live 65 [(.int .i64 r.1),(.int .i64 r.2)])]:=⟨⟨_,func48,nm48,rfl⟩,r06_New_c a0 _ h⟩
theorem r06_Right_c (a0:AI):∀ r,r06_Right a0=some r→ACalls Tryz.prog 159 [(.agg (kI.enc a0))] (lw []) (.bool r) (ld []):=by
 unfold r06_Right
 refine go 0 func159 ntmps159 rfl ?_
 intro E hE
 refine .seq<|.region<|.w (bx 0 rfl)<|.p (sg rfl)<|.nil<|.seq<|.seq<|.region<|.p (fa 0 fl34_0 rfl)<|.p (la ag26 rfl)<|.bind fun x6 h1=>.p (c0 (r05_Right_p h1) rfl)<|.p (sg rfl)<|.nil<|?_
 refine .seq<|.seq<|.region<|.p (fa 3 fl34_1 rfl)<|.p (la ag26 rfl)<|.bind fun x7 h2=>.p (c0 (r05_Right_p h2) rfl)<|.p (sg rfl)<|.nil<|.seq<|.seq<|?_
 refine T.cut (X:=Bool) (fun x=>r06_Right_j1 x) (fun x=>(mkS [(2,some (.bool x))] [])) ?_ ?_
 ·rintro y9
  dsimp only [r06_Right_j1]
  refine .seq<|.ret<|fin_1 (.inr rfl) (.nil _) results159 (.t rfl) (AVle.refl _)
 ·intro h6
  refine .region<|.p (mv rfl)<|.p (mv rfl)<|?_
  refine TR.gd 12 _ rfl iff_b (fun h7=>?_) (fun h7=>?_)
  ·refine .p (mv rfl)<|.p (pt rfl)<|.p (mv rfl)<|?_
   refine TR.gd 15 _ rfl iff_b (fun h8=>?_) (fun h8=>?_)
   ·refine .p (fa 0 fl34_0 rfl)<|.p (la ag26 rfl)<|.p (fa 3 fl34_1 rfl)<|.p (la ag26 rfl)<|.bind fun x10 h9=>.p (c0 (r05_Cmp_p h9) rfl)<|.p (ar rfl)<|.p (pt rfl)<|.p (sg rfl)<|.nil<|.weak (h6 (decide (x10≤0))) (jn (m:=0) [] hE (.b rfl<|.nil) .nil rfl)
   ·refine .k rfl<|.k rfl<|.k rfl<|.k rfl<|.k rfl<|.k rfl<|.p (pf rfl)<|.p (sg rfl)<|.nil<|.weak (h6 false) (jn (m:=0) [] hE (.b rfl<|.nil) .nil rfl)
  ·refine .k rfl<|.p (pf rfl)<|.p (mv rfl)<|.k rfl<|.k rfl<|.k rfl<|.k rfl<|.k rfl<|.k rfl<|.p (pf rfl)<|.p (sg rfl)<|.nil<|.weak (h6 false) (jn (m:=0) [] hE (.b rfl<|.nil) .nil rfl)
theorem r06_Right_p {a0:AI} {r:Bool} (h:r06_Right a0=some r):Pur Tryz.prog 159 [(.agg (kI.enc a0))] (.bool r):=⟨⟨_,func159,nm159,rfl⟩,r06_Right_c a0 _ h,fun _=>(.a kI<|.nil),fun _=>(.bool _)⟩
theorem r06_Cerr_c (a0:Int) (a1:Int) (a2:Int):∀ r,r06_Cerr a0 a1 a2=some r→ACalls Tryz.prog 166 [(.ptr 0 0),(.int .i64 a0)] (lw [(.live 65 [(.int .i64 a1),(.int .i64 a2)])]) (.bool r.1) (ld [(.live 65 [(.int .i64 a1),(.int .i64 r.2)])]):=by
 unfold r06_Cerr
 refine go 1 func166 ntmps166 rfl ?_
 intro E hE
 refine .seq<|.region<|.p (sg rfl)<|.nil<|.seq<|.seq<|.seq<|.region<|.p (mv rfl)<|.p (nc rfl)<|.p (fa 1 fl65_1 rfl)<|.p (ls sc3 rfl)<|.p (ar rfl)<|.nil<|?_
 refine .seq<|?_
 refine T.cut (X:=Int) (fun x=>r06_Cerr_j1 x) (fun x=>(mkS [(0,some (.ptr 0 0))] [(0,(.live 65 [(.int .i64 a1),(.int .i64 x)]))])) ?_ ?_
 ·rintro y2
  dsimp only [r06_Cerr_j1]
  refine .seq<|.seq<|.region<|.p (mv rfl)<|.p (nc rfl)<|.p (fa 1 fl65_1 rfl)<|.p (ls sc3 rfl)<|.p (ar rfl)<|.p (sg rfl)<|.nil<|.seq<|.ret<|fin_1 (.inr rfl) (.k rfl (.nil _)) results166 (.t rfl) (AVle.refl _)
 ·intro h3
  refine T.cond_p rfl iff_eq (fun h4 h5=>?_) (fun h4 h5=>?_)
  ·refine .region<|.p (mv rfl)<|.p (mv rfl)<|.p (nc rfl)<|.p (fa 1 fl65_1 rfl)<|.n (ss sc3 rfl)<|.nil<|.weak (h3 a0) (jn (m:=1) [(0,0)] hE (.p rfl rfl<|.nil) (.v rfl (.i<|.i<|.nil)<|.nil) rfl)
  ·refine .skip<|.weak (h3 a2) (jn (m:=1) [(0,0)] hE (.p rfl rfl<|.nil) (.v rfl (.i<|.i<|.nil)<|.nil) rfl)
theorem r06_Cerr_k {a0:Int} {a1:Int} {a2:Int} {r:Bool × Int} (h:r06_Cerr a0 a1 a2=some r):Cal Tryz.prog 166 [(.ptr 0 0),(.int .i64 a0)] [(.live 65 [(.int .i64 a1),(.int .i64 a2)])] (.bool r.1) [(.live 65 [(.int .i64 a1),(.int .i64 r.2)])]:=⟨⟨_,func166,nm166,rfl⟩,r06_Cerr_c a0 a1 a2 _ h⟩
theorem r06_Carg_c (a0:List AI) (a1:Int) (a2:Int):∀ r,r06_Carg a0 a1 a2=some r→ACalls Tryz.prog 164 [(.ptr 0 0),(slK kI a0)] (lw [(.live 65 [(.int .i64 a1),(.int .i64 a2)])]) (.bool r.1) (ld [(.live 65 [(.int .i64 a1),(.int .i64 r.2)])]):=by
 unfold r06_Carg
 refine go 1 func164 ntmps164 rfl ?_
 intro E hE
 refine .seq<|.region<|.p (sg rfl)<|.nil<|.seq<|.seq<|.seq<|.region<|.p (sg rfl)<|.nil<|.seq<|?_
 refine T.cut (X:=Unit) (fun x=>r06_Carg_j1 a2) (fun x=>(mkS [(0,some (.ptr 0 0))] [(0,(.live 65 [(.int .i64 a1),(.int .i64 a2)]))])) ?_ ?_
 ·rintro _
  dsimp only [r06_Carg_j1]
  refine .seq<|.seq<|.region<|.p (mv rfl)<|.p (nc rfl)<|.p (fa 1 fl65_1 rfl)<|.p (ls sc3 rfl)<|.p (ar rfl)<|.p (sg rfl)<|.nil<|.seq<|.ret<|fin_1 (.inr rfl) (.k rfl (.nil _)) results164 (.t rfl) (AVle.refl _)
 ·intro h37
  refine .block<|.loopW (X:=Int) (fun n x=>r06_Carg_l2 a0 a1 a2 n x) (fun x=>(mkS [(0,some (.ptr 0 0)),(1,some (slK kI a0)),(5,some (.int .i64 x))] [(0,(.live 65 [(.int .i64 a1),(.int .i64 a2)]))])) 0 (jn (m:=1) [(0,0)] hE (.p rfl rfl<|.l rfl<|.i rfl<|.nil) (.v rfl (.i<|.i<|.nil)<|.nil) rfl) (fun _=>rfl) rfl<|?_
  rintro n2 y52
  try dsimp only
  rw [r06_Carg_l2]
  refine .seq<|.seq<|.region<|.p (mv rfl)<|.p (mv rfl)<|.p (ln underlying104 rfl)<|.p (ar rfl)<|.nil<|.seq<|?_
  refine T.cond_p rfl iff_dec (fun h62 h63=>?_) (fun h62 h63=>?_)
  ·refine .skip<|.seq<|.seq<|.block<|.seq<|.region<|.p (mv rfl)<|.p (mv rfl)<|.guard fun h69=>?_
   refine TR.st 15 (.iptr [(.bool ((((a0.getD y52.toNat zAI).Lo).M).Neg)),(slK (kInt .u32) ((((a0.getD y52.toNat zAI).Lo).M).Mag)),(.int .i64 (((a0.getD y52.toNat zAI).Lo).E)),(.bool ((((a0.getD y52.toNat zAI).Hi).M).Neg)),(slK (kInt .u32) ((((a0.getD y52.toNat zAI).Hi).M).Mag)),(.int .i64 (((a0.getD y52.toNat zAI).Hi).E))]) [] (snd_indexK kI _ _ _ _ _ _ y52 rfl underlying104 si34 rfl rfl rfl rfl h69) rfl rfl rfl ?_
   refine .p (lai ag34 rfl)<|.bind fun x55 h70=>.p (c0 (r06_Right_p h70) rfl)<|.p (sg rfl)<|.nil<|.seq<|.seq<|.region<|.p (mv rfl)<|.p (un rfl)<|.nil<|.seq<|?_
   refine T.cond_p rfl iff_nb (fun h71 h72=>?_) (fun h71 h72=>?_)
   ·refine .seq<|.region<|.p (mv rfl)<|.bind fun x56 h73=>.w (cl (r06_Cerr_k h73) [0] [] [true] rfl (.p rfl<|.i<|.nil) (.p rfl (.i<|.i<|.nil) .nil) fnil (.cons (.v (.i<|.i<|.nil)) .nil) (.bool _) (.turned .nil) rfl)<|.p (sg rfl)<|.nil<|.seq<|.ret<|.block_ret<|.seq_ret<|.loop_ret<|.block_ret<|.seq_ret<|fin_1 (.inr rfl) (.k rfl (.nil _)) results164 (.t rfl) (AVle.refl _)
   ·refine .skip<|.block<|.seq<|.region<|.p (mv rfl)<|.p (ar rfl)<|.p (sg rfl)<|.nil<|.again (IntKind.i64.wrap (y52+1)) (jn (m:=1) [(0,0)] hE (.p rfl rfl<|.l rfl<|.i rfl<|.nil) (.v rfl (.i<|.i<|.nil)<|.nil) rfl) rfl
  ·refine .exit<|.seq_exit<|.loop_exit<|.block_exit<|.weak (h37 ()) (jn (m:=1) [(0,0)] hE (.p rfl rfl<|.nil) (.v rfl (.i<|.i<|.nil)<|.nil) rfl)
theorem r06_Carg_k {a0:List AI} {a1:Int} {a2:Int} {r:Bool × Int} (h:r06_Carg a0 a1 a2=some r):Cal Tryz.prog 164 [(.ptr 0 0),(slK kI a0)] [(.live 65 [(.int .i64 a1),(.int .i64 a2)])] (.bool r.1) [(.live 65 [(.int .i64 a1),(.int .i64 r.2)])]:=⟨⟨_,func164,nm164,rfl⟩,r06_Carg_c a0 a1 a2 _ h⟩
theorem r06_CPoint_c (a0:AD) (a1:Int) (a2:Int):∀ r,r06_CPoint a0 a1 a2=some r→ACalls Tryz.prog 163 [(.ptr 0 0),(.agg (kD.enc a0))] (lw [(.live 65 [(.int .i64 a1),(.int .i64 a2)])]) (.agg (kI.enc (⟨⟨(((r.1).Lo).M),((r.1).Lo).E⟩,⟨(((r.1).Hi).M),((r.1).Hi).E⟩⟩:AI))) (ld [(.live 65 [(.int .i64 a1),(.int .i64 r.2)])]):=by
 unfold r06_CPoint
 refine go 1 func163 ntmps163 rfl ?_
 intro E hE
 refine .seq<|.region<|.w (bx 1 rfl)<|.w (al 2 ze34 rfl)<|.nil<|.seq<|.seq<|.seq<|.region<|.p (mv rfl)<|.p (la ag26 rfl)<|.p (la ag26 rfl)<|.p (bd ze34 pl34 rfl)<|?_
 refine TR.st 9 (slK kI [(⟨a0,a0⟩:AI)]) [] (snd_buildSlice _ _ _ 6 _ _ [(0,(.agg (kI.enc (⟨a0,a0⟩:AI))))] (List.map kI.enc [(⟨a0,a0⟩:AI)]) rfl underlying104 ze34 si34 rfl rfl rfl (by decide) (by decide) (by decide) rfl rfl (Kd.even _) rfl) rfl rfl rfl ?_
 refine .bind fun x2 h1=>.w (cl (r06_Carg_k h1) [0] [] [true] rfl (.p rfl<|.l<|.nil) (.p rfl (.i<|.i<|.nil) .nil) fnil (.cons (.v (.i<|.i<|.nil)) .nil) (.bool _) (.turned .nil) rfl)<|.p (un rfl)<|.nil<|.seq<|?_
 refine T.cond_p rfl iff_nb (fun h2 h3=>?_) (fun h2 h3=>?_)
 ·refine .seq<|.region<|.p (bd ze34 pl34 rfl)<|.n (sa ag34 rfl)<|.nil<|.seq<|.ret<|.seq_ret<|fin_1 (.inr rfl) (.k rfl (.nil _)) results163 (.a ag34 rfl) (AVle.refl _)
 ·refine .skip<|.seq<|.seq<|.region<|.p (la ag26 rfl)<|.p (la ag26 rfl)<|.p (bd ze34 pl34 rfl)<|.n (sa ag34 rfl)<|.nil<|.seq<|.ret<|fin_1 (.inr rfl) (.k rfl (.nil _)) results163 (.a ag34 rfl) (AVle.refl _)
theorem r06_CPoint_k {a0:AD} {a1:Int} {a2:Int} {r:AI × Int} (h:r06_CPoint a0 a1 a2=some r):Cal Tryz.prog 163 [(.ptr 0 0),(.agg (kD.enc a0))] [(.live 65 [(.int .i64 a1),(.int .i64 a2)])] (.agg (kI.enc (⟨⟨(((r.1).Lo).M),((r.1).Lo).E⟩,⟨(((r.1).Hi).M),((r.1).Hi).E⟩⟩:AI))) [(.live 65 [(.int .i64 a1),(.int .i64 r.2)])]:=⟨⟨_,func163,nm163,rfl⟩,r06_CPoint_c a0 a1 a2 _ h⟩
theorem r06_CInt_c (a0:Int) (a1:Int) (a2:Int):∀ r,r06_CInt a0 a1 a2=some r→ACalls Tryz.prog 113 [(.ptr 0 0),(.int .i64 a0)] (lw [(.live 65 [(.int .i64 a1),(.int .i64 a2)])]) (.agg (kI.enc (⟨⟨(((r.1).Lo).M),((r.1).Lo).E⟩,⟨(((r.1).Hi).M),((r.1).Hi).E⟩⟩:AI))) (ld [(.live 65 [(.int .i64 a1),(.int .i64 r.2)])]):=by
 unfold r06_CInt
 refine go 1 func113 ntmps113 rfl ?_
 intro E hE
 refine .seq<|.region<|.w (al 1 ze34 rfl)<|.nil<|.seq<|.seq<|.region<|.p (mv rfl)<|.p (mv rfl)<|.bind fun x3 h1=>.p (c0 (r05_From_p h1) rfl)<|.bind fun x4 h2=>.w (cl (r06_CPoint_k h2) [0] [] [true] rfl (.p rfl<|.a kD<|.nil) (.p rfl (.i<|.i<|.nil) .nil) fnil (.cons (.v (.i<|.i<|.nil)) .nil) (ren_agg (K:=kI) _) (.turned .nil) rfl)<|.n (sa ag34 rfl)<|?_
 refine .nil<|.seq<|.ret<|fin_1 (.inr rfl) (.k rfl (.nil _)) results113 (.a ag34 rfl) (AVle.refl _)
theorem r06_CInt_k {a0:Int} {a1:Int} {a2:Int} {r:AI × Int} (h:r06_CInt a0 a1 a2=some r):Cal Tryz.prog 113 [(.ptr 0 0),(.int .i64 a0)] [(.live 65 [(.int .i64 a1),(.int .i64 a2)])] (.agg (kI.enc (⟨⟨(((r.1).Lo).M),((r.1).Lo).E⟩,⟨(((r.1).Hi).M),((r.1).Hi).E⟩⟩:AI))) [(.live 65 [(.int .i64 a1),(.int .i64 r.2)])]:=⟨⟨_,func113,nm113,rfl⟩,r06_CInt_c a0 a1 a2 _ h⟩
end Go.Proofs.YtpmpcohbpankaaaGreat.Gen
