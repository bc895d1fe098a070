/- Printed by gen.py: a call does what the plain function says. -/
import Derived.Test.YtpmpcohbpankaaaGreatKonstToldGenP3
namespace Go.Proofs.YtpmpcohbpankaaaGreat.Gen
open Go Go.Abs Go.Proofs Go.Proofs.Tryz
theorem r06_CWide_c (a0:AI) (a1:AD) (a2:Int) (a3:Int):∀ r,r06_CWide a0 a1 a2 a3=some r→ACalls Tryz.prog 174 [(.ptr 0 0),(.agg (kI.enc a0)),(.agg (kD.enc a1))] (lw [(.live 65 [(.int .i64 a2),(.int .i64 a3)])]) (.agg (kI.enc (⟨⟨(((r.1).Lo).M),((r.1).Lo).E⟩,⟨(((r.1).Hi).M),((r.1).Hi).E⟩⟩:AI))) (ld [(.live 65 [(.int .i64 a2),(.int .i64 r.2)])]):=by
 unfold r06_CWide
 refine go 1 func174 ntmps174 rfl ?_
 intro E hE
 refine .seq<|.region<|.w (bx 1 rfl)<|.w (bx 2 rfl)<|.w (al 3 ze34 rfl)<|.nil<|.seq<|.seq<|.seq<|.region<|.p (mv rfl)<|.p (la ag34 rfl)<|.p (bd ze26 pl26 rfl)<|.p (la ag26 rfl)<|?_
 refine .p (bd ze34 pl34 rfl)<|?_
 refine TR.st 14 (slK kI [a0,(⟨⟨⟨false,[]⟩,0⟩,a1⟩:AI)]) [] (snd_buildSlice _ _ _ 6 _ _ [(0,(.agg (kI.enc a0))),(1,(.agg (kI.enc (⟨⟨⟨false,[]⟩,0⟩,a1⟩:AI))))] (List.map kI.enc [a0,(⟨⟨⟨false,[]⟩,0⟩,a1⟩:AI)]) rfl underlying104 ze34 si34 rfl rfl rfl (by decide) (by decide) (by decide) rfl rfl (Kd.even _) rfl) rfl rfl rfl ?_
 refine .bind fun x8 h1=>.w (cl (r06_Carg_k h1) [0] [] [true] rfl (.p rfl<|.l<|.nil) (.p rfl (.i<|.i<|.nil) .nil) fnil (.cons (.v (.i<|.i<|.nil)) .nil) (.bool _) (.turned .nil) rfl)<|.p (un rfl)<|.nil<|.seq<|?_
 refine T.cond_p rfl iff_nb (fun h2 h3=>?_) (fun h2 h3=>?_)
 ·refine .seq<|.region<|.p (bd ze34 pl34 rfl)<|.n (sa ag34 rfl)<|.nil<|.seq<|.ret<|.seq_ret<|fin_1 (.inr rfl) (.k rfl (.nil _)) results174 (.a ag34 rfl) (AVle.refl _)
 ·refine .skip<|.seq<|.seq<|.draw mixed<|.p (mv rfl)<|.p (mv rfl)<|.p (fa 0 fl34_0 rfl)<|.p (la ag26 rfl)<|.p (la ag26 rfl)<|.bind fun x9 h4=>.p (c0 (r05_Neg_p h4) rfl)<|.bind fun x10 h5=>.w (cl (r06_Cadd_k h5) [0] [] [true] rfl (.p rfl<|.a kD<|.a kD<|.nil) (.p rfl (.i<|.i<|.nil) .nil) fnil (.cons (.v (.i<|.i<|.nil)) .nil) (ren_agg (K:=kD) _) (.turned .nil) rfl)<|.bind fun x11 h6=>?_
  refine .w (cl (r06_Cround_k h6) [0] [] [true] rfl (.p rfl<|.a kD<|.b<|.nil) (.p rfl (.i<|.i<|.nil) .nil) fnil (.cons (.v (.i<|.i<|.nil)) .nil) (ren_agg (K:=kD) _) (.turned .nil) rfl)<|.w (al 4 ze26 rfl)<|.n (sa ag26 rfl)<|.nil (by kernel_rfl)<|.seq<|.seq<|.region<|.p (mv rfl)<|.p (mv rfl)<|.p (fa 3 fl34_1 rfl)<|.p (la ag26 rfl)<|.p (la ag26 rfl)<|.bind fun x12 h7=>.w (cl (r06_Cadd_k h7) [0] [] [true] rfl (.p rfl<|.a kD<|.a kD<|.nil) (.p rfl (.i<|.i<|.nil) .nil) fnil (.cons (.v (.i<|.i<|.nil)) .nil) (ren_agg (K:=kD) _) (.turned .nil) rfl)<|?_
  refine .bind fun x13 h8=>.w (cl (r06_Cround_k h8) [0] [] [true] rfl (.p rfl<|.a kD<|.b<|.nil) (.p rfl (.i<|.i<|.nil) .nil) fnil (.cons (.v (.i<|.i<|.nil)) .nil) (ren_agg (K:=kD) _) (.turned .nil) rfl)<|.w (al 5 ze26 rfl)<|.n (sa ag26 rfl)<|.nil<|.seq<|.seq<|.region<|.p (mv rfl)<|.p (la ag26 rfl)<|.p (la ag26 rfl)<|.bind fun x14 h9=>.p (cl (r06_Cout_k h9) [0] [] [false] rfl (.p rfl<|.a kD<|.a kD<|.nil) (.p rfl (.i<|.i<|.nil) .nil) fnil (.cons (.v (.i<|.i<|.nil)) .nil) (ren_agg (K:=kI) _) (.kept rfl .nil) rfl)<|.n (sa ag34 rfl)<|?_
  refine .nil<|.seq<|.ret<|fin_1 (.inr rfl) (.k rfl (.nil _)) results174 (.a ag34 rfl) (AVle.refl _)
theorem r06_CWide_k {a0:AI} {a1:AD} {a2:Int} {a3:Int} {r:AI × Int} (h:r06_CWide a0 a1 a2 a3=some r):Cal Tryz.prog 174 [(.ptr 0 0),(.agg (kI.enc a0)),(.agg (kD.enc a1))] [(.live 65 [(.int .i64 a2),(.int .i64 a3)])] (.agg (kI.enc (⟨⟨(((r.1).Lo).M),((r.1).Lo).E⟩,⟨(((r.1).Hi).M),((r.1).Hi).E⟩⟩:AI))) [(.live 65 [(.int .i64 a2),(.int .i64 r.2)])]:=⟨⟨_,func174,nm174,rfl⟩,r06_CWide_c a0 a1 a2 a3 _ h⟩
theorem r07_ends_c (a0:AI) (a1:Int) (a2:Int):∀ r,r07_ends a0 a1 a2=some r→ACalls Tryz.prog 117 [(.ptr 0 0),(.agg (kI.enc a0))] (lw [(.live 65 [(.int .i64 a1),(.int .i64 a2)])]) (.agg (kI.enc (⟨⟨(((r.1).Lo).M),((r.1).Lo).E⟩,⟨(((r.1).Hi).M),((r.1).Hi).E⟩⟩:AI))) (ld [(.live 65 [(.int .i64 a1),(.int .i64 r.2)])]):=by
 unfold r07_ends
 refine go 1 func117 ntmps117 rfl ?_
 intro E hE
 refine .seq<|.region<|.w (bx 1 rfl)<|.w (al 2 ze34 rfl)<|.nil<|.seq<|.seq<|.draw mixed<|.p (mv rfl)<|.p (la ag34 rfl)<|.p (mv rfl)<|.p (nc rfl)<|.p (fa 0 fl65_0 rfl)<|.p (ls sc3 rfl)<|?_
 refine .p (un rfl)<|.bind fun x3 h1=>.p (c0 (r05_Half_p h1) rfl)<|.bind fun x4 h2=>.w (cl (r06_CWide_k h2) [0] [] [true] rfl (.p rfl<|.a kI<|.a kD<|.nil) (.p rfl (.i<|.i<|.nil) .nil) fnil (.cons (.v (.i<|.i<|.nil)) .nil) (ren_agg (K:=kI) _) (.turned .nil) rfl)<|.n (sa ag34 rfl)<|.nil (by kernel_rfl)<|.seq<|.ret<|fin_1 (.inr rfl) (.k rfl (.nil _)) results117 (.a ag34 rfl) (AVle.refl _)
theorem r07_ends_k {a0:AI} {a1:Int} {a2:Int} {r:AI × Int} (h:r07_ends a0 a1 a2=some r):Cal Tryz.prog 117 [(.ptr 0 0),(.agg (kI.enc a0))] [(.live 65 [(.int .i64 a1),(.int .i64 a2)])] (.agg (kI.enc (⟨⟨(((r.1).Lo).M),((r.1).Lo).E⟩,⟨(((r.1).Hi).M),((r.1).Hi).E⟩⟩:AI))) [(.live 65 [(.int .i64 a1),(.int .i64 r.2)])]:=⟨⟨_,func117,nm117,rfl⟩,r07_ends_c a0 a1 a2 _ h⟩
theorem r07_Atan_c (a0:AI) (a1:Int) (a2:Int):∀ r,r07_Atan a0 a1 a2=some r→ACalls Tryz.prog 53 [(.ptr 0 0),(.agg (kI.enc a0))] (lw [(.live 65 [(.int .i64 a1),(.int .i64 a2)])]) (.agg (kI.enc (⟨⟨(((r.1).Lo).M),((r.1).Lo).E⟩,⟨(((r.1).Hi).M),((r.1).Hi).E⟩⟩:AI))) (ld [(.live 65 [(.int .i64 a1),(.int .i64 r.2)])]):=by
 unfold r07_Atan
 refine go 1 func53 ntmps53 rfl ?_
 intro E hE
 refine .seq<|.region<|.w (bx 1 rfl)<|.w (al 2 ze34 rfl)<|.nil<|.seq<|.seq<|.seq<|.region<|.p (mv rfl)<|.p (la ag34 rfl)<|.bind fun x133 h1=>.w (cl (r07_fits_k h1) [0] [] [true] rfl (.p rfl<|.a kI<|.i<|.nil) (.p rfl (.i<|.i<|.nil) .nil) fnil (.cons (.v (.i<|.i<|.nil)) .nil) (.bool _) (.turned .nil) rfl)<|.p (un rfl)<|?_
 refine .nil<|.seq<|?_
 refine T.cond_p rfl iff_nb (fun h2 h3=>?_) (fun h2 h3=>?_)
 ·refine .seq<|.region<|.p (bd ze34 pl34 rfl)<|.n (sa ag34 rfl)<|.nil<|.seq<|.ret<|.seq_ret<|fin_1 (.inr rfl) (.k rfl (.nil _)) results53 (.a ag34 rfl) (AVle.refl _)
 ·refine .skip<|.seq<|.seq<|.region<|.p (mv rfl)<|.p (la ag34 rfl)<|.p (la ag34 rfl)<|.bind fun x134 h4=>.w (cl (r06_CMul_k h4) [0] [] [true] rfl (.p rfl<|.a kI<|.a kI<|.nil) (.p rfl (.i<|.i<|.nil) .nil) fnil (.cons (.v (.i<|.i<|.nil)) .nil) (ren_agg (K:=kI) _) (.turned .nil) rfl)<|.w (al 3 ze34 rfl)<|.n (sa ag34 rfl)<|.nil<|.seq<|.seq<|?_
  refine .region<|.p (la ag34 rfl)<|.w (al 4 ze34 rfl)<|.n (sa ag34 rfl)<|.nil<|.seq<|.seq<|.region<|.p (la ag34 rfl)<|.w (al 5 ze34 rfl)<|.n (sa ag34 rfl)<|.nil<|.seq<|.seq<|?_
  refine .seq<|.region<|.p (sg rfl)<|.nil<|.seq<|?_
  refine T.cut (X:=Int × Bool × (List Int) × Int × Bool × (List Int) × Int) (fun x=>r07_Atan_j1 a1 x.1 x.2.1 x.2.2.1 x.2.2.2.1 x.2.2.2.2.1 x.2.2.2.2.2.1 x.2.2.2.2.2.2) (fun x=>(mkS [(0,some (.ptr 0 0)),(4,some (.ptr 2 0)),(6,some (.ptr 4 0))] [(0,(.live 65 [(.int .i64 a1),(.int .i64 x.1)])),(2,(.live 34 [(.bool false),(slK (kInt .u32) []),(.int .i64 0),(.bool false),(slK (kInt .u32) []),(.int .i64 0)])),(4,(.live 34 [(.bool x.2.1),(slK (kInt .u32) x.2.2.1),(.int .i64 x.2.2.2.1),(.bool x.2.2.2.2.1),(slK (kInt .u32) x.2.2.2.2.2.1),(.int .i64 x.2.2.2.2.2.2)]))])) ?_ ?_
  ·rintro ⟨y196,y197,y198,y199,y200,y201,y202⟩
   dsimp only [r07_Atan_j1]
   refine .seq<|.seq<|.region<|.p (mv rfl)<|.p (la ag34 rfl)<|.bind fun x203 h44=>.w (cl (r07_ends_k h44) [0] [] [true] rfl (.p rfl<|.a kI<|.nil) (.p rfl (.i<|.i<|.nil) .nil) fnil (.cons (.v (.i<|.i<|.nil)) .nil) (ren_agg (K:=kI) _) (.turned .nil) rfl)<|.n (sa ag34 rfl)<|.nil<|.seq<|.ret<|fin_1 (.inr rfl) (.k rfl (.nil _)) results53 (.a ag34 rfl) (AVle.refl _)
  ·intro h45
   refine .block<|.loopW (X:=Int × Int × Bool × (List Int) × Int × Bool × (List Int) × Int × Bool × (List Int) × Int × Bool × (List Int) × Int) (fun n x=>r07_Atan_l2 a1 x134 n x.1 x.2.1 x.2.2.1 x.2.2.2.1 x.2.2.2.2.1 x.2.2.2.2.2.1 x.2.2.2.2.2.2.1 x.2.2.2.2.2.2.2.1 x.2.2.2.2.2.2.2.2.1 x.2.2.2.2.2.2.2.2.2.1 x.2.2.2.2.2.2.2.2.2.2.1 x.2.2.2.2.2.2.2.2.2.2.2.1 x.2.2.2.2.2.2.2.2.2.2.2.2.1 x.2.2.2.2.2.2.2.2.2.2.2.2.2) (fun x=>(mkS [(0,some (.ptr 0 0)),(4,some (.ptr 2 0)),(5,some (.ptr 3 0)),(6,some (.ptr 4 0)),(7,some (.ptr 5 0)),(8,some (.int .i64 x.1))] [(0,(.live 65 [(.int .i64 a1),(.int .i64 x.2.1)])),(2,(.live 34 [(.bool false),(slK (kInt .u32) []),(.int .i64 0),(.bool false),(slK (kInt .u32) []),(.int .i64 0)])),(3,(.live 34 [(.bool ((((x134.1).Lo).M).Neg)),(slK (kInt .u32) ((((x134.1).Lo).M).Mag)),(.int .i64 (((x134.1).Lo).E)),(.bool ((((x134.1).Hi).M).Neg)),(slK (kInt .u32) ((((x134.1).Hi).M).Mag)),(.int .i64 (((x134.1).Hi).E))])),(4,(.live 34 [(.bool x.2.2.1),(slK (kInt .u32) x.2.2.2.1),(.int .i64 x.2.2.2.2.1),(.bool x.2.2.2.2.2.1),(slK (kInt .u32) x.2.2.2.2.2.2.1),(.int .i64 x.2.2.2.2.2.2.2.1)])),(5,(.live 34 [(.bool x.2.2.2.2.2.2.2.2.1),(slK (kInt .u32) x.2.2.2.2.2.2.2.2.2.1),(.int .i64 x.2.2.2.2.2.2.2.2.2.2.1),(.bool x.2.2.2.2.2.2.2.2.2.2.2.1),(slK (kInt .u32) x.2.2.2.2.2.2.2.2.2.2.2.2.1),(.int .i64 x.2.2.2.2.2.2.2.2.2.2.2.2.2)]))])) (1,x134.2,a0.Lo.M.Neg,a0.Lo.M.Mag,a0.Lo.E,a0.Hi.M.Neg,a0.Hi.M.Mag,a0.Hi.E,a0.Lo.M.Neg,a0.Lo.M.Mag,a0.Lo.E,a0.Hi.M.Neg,a0.Hi.M.Mag,a0.Hi.E) (jn (m:=1) [(0,0),(2,2),(3,3),(4,4),(5,5)] hE (.p rfl rfl<|.p rfl rfl<|.p rfl rfl<|.p rfl rfl<|.p rfl rfl<|.i rfl<|.nil) (.v rfl (.i<|.i<|.nil)<|.v rfl (.b<|.l<|.i<|.b<|.l<|.i<|.nil)<|.v rfl (.b<|.l<|.i<|.b<|.l<|.i<|.nil)<|.v rfl (.b<|.l<|.i<|.b<|.l<|.i<|.nil)<|.v rfl (.b<|.l<|.i<|.b<|.l<|.i<|.nil)<|.nil) rfl) (fun _=>rfl) rfl<|?_
   rintro n2 ⟨y240,y241,y242,y243,y244,y245,y246,y247,y248,y249,y250,y251,y252,y253⟩
   try dsimp only
   rw [r07_Atan_l2]
   refine .seq<|.seq<|.region<|.p (mv rfl)<|.p (mv rfl)<|.p (nc rfl)<|.p (fa 0 fl65_0 rfl)<|.p (ls sc3 rfl)<|.bind fun x254 h72=>.p (c0 (r07_Terms_p h72) rfl)<|.p (ar rfl)<|.nil<|.seq<|?_
   refine T.cond_p rfl iff_dec (fun h73 h74=>?_) (fun h73 h74=>?_)
   ·refine .skip<|.seq<|.seq<|.block<|.seq<|.region<|.p (mv rfl)<|.p (mv rfl)<|.p (la ag34 rfl)<|.p (la ag34 rfl)<|.bind fun x260 h80=>.w (cl (r06_CMul_k h80) [0] [] [true] rfl (.p rfl<|.a kI<|.a kI<|.nil) (.p rfl (.i<|.i<|.nil) .nil) fnil (.cons (.v (.i<|.i<|.nil)) .nil) (ren_agg (K:=kI) _) (.turned .nil) rfl)<|.bind fun x261 h81=>.w (cl (r06_CNeg_k h81) [0] [] [true] rfl (.p rfl<|.a kI<|.nil) (.p rfl (.i<|.i<|.nil) .nil) fnil (.cons (.v (.i<|.i<|.nil)) .nil) (ren_agg (K:=kI) _) (.turned .nil) rfl)<|?_
    refine .n (sa ag34 rfl)<|.nil<|.seq<|.draw mixed<|.p (mv rfl)<|.p (la ag34 rfl)<|.p (mv rfl)<|.p (la ag34 rfl)<|.p (mv rfl)<|.p (mv rfl)<|.p (ar rfl)<|.p (ar rfl)<|.bind fun x262 h82=>.w (cl (r06_CInt_k h82) [0] [] [true] rfl (.p rfl<|.i<|.nil) (.p rfl (.i<|.i<|.nil) .nil) fnil (.cons (.v (.i<|.i<|.nil)) .nil) (ren_agg (K:=kI) _) (.turned .nil) rfl)<|?_
    refine .bind fun x263 h83=>.w (cl (r06_CDiv_k h83) [0] [] [true] rfl (.p rfl<|.a kI<|.a kI<|.nil) (.p rfl (.i<|.i<|.nil) .nil) fnil (.cons (.v (.i<|.i<|.nil)) .nil) (ren_agg (K:=kI) _) (.turned .nil) rfl)<|.bind fun x264 h84=>.w (cl (r06_CAdd_k h84) [0] [] [true] rfl (.p rfl<|.a kI<|.a kI<|.nil) (.p rfl (.i<|.i<|.nil) .nil) fnil (.cons (.v (.i<|.i<|.nil)) .nil) (ren_agg (K:=kI) _) (.turned .nil) rfl)<|.n (sa ag34 rfl)<|.nil (by kernel_rfl)<|.block<|.seq<|.region<|.p (mv rfl)<|.p (ar rfl)<|.p (sg rfl)<|.nil<|.again ((IntKind.i64.wrap (y240+1)),x264.2,(((x264.1).Lo).M).Neg,(((x264.1).Lo).M).Mag,((x264.1).Lo).E,(((x264.1).Hi).M).Neg,(((x264.1).Hi).M).Mag,((x264.1).Hi).E,(((x261.1).Lo).M).Neg,(((x261.1).Lo).M).Mag,((x261.1).Lo).E,(((x261.1).Hi).M).Neg,(((x261.1).Hi).M).Mag,((x261.1).Hi).E) (jn (m:=1) [(0,0),(2,2),(3,3),(4,4),(5,5)] hE (.p rfl rfl<|.p rfl rfl<|.p rfl rfl<|.p rfl rfl<|.p rfl rfl<|.i rfl<|.nil) (.v rfl (.i<|.i<|.nil)<|.v rfl (.b<|.l<|.i<|.b<|.l<|.i<|.nil)<|.v rfl (.b<|.l<|.i<|.b<|.l<|.i<|.nil)<|.v rfl (.b<|.l<|.i<|.b<|.l<|.i<|.nil)<|.v rfl (.b<|.l<|.i<|.b<|.l<|.i<|.nil)<|.nil) rfl) rfl
   ·refine .exit<|.seq_exit<|.loop_exit<|.block_exit<|.weak (h45 (y241,y242,y243,y244,y245,y246,y247)) (jn (m:=1) [(0,0),(2,2),(4,4)] hE (.p rfl rfl<|.p rfl rfl<|.p rfl rfl<|.nil) (.v rfl (.i<|.i<|.nil)<|.v rfl (.b<|.l<|.i<|.b<|.l<|.i<|.nil)<|.v rfl (.b<|.l<|.i<|.b<|.l<|.i<|.nil)<|.nil) rfl)
theorem r07_Atan_k {a0:AI} {a1:Int} {a2:Int} {r:AI × Int} (h:r07_Atan a0 a1 a2=some r):Cal Tryz.prog 53 [(.ptr 0 0),(.agg (kI.enc a0))] [(.live 65 [(.int .i64 a1),(.int .i64 a2)])] (.agg (kI.enc (⟨⟨(((r.1).Lo).M),((r.1).Lo).E⟩,⟨(((r.1).Hi).M),((r.1).Hi).E⟩⟩:AI))) [(.live 65 [(.int .i64 a1),(.int .i64 r.2)])]:=⟨⟨_,func53,nm53,rfl⟩,r07_Atan_c a0 a1 a2 _ h⟩
theorem r05_Scale_c (a0:AD) (a1:Int):∀ r,r05_Scale a0 a1=some r→ACalls Tryz.prog 179 [(.agg (kD.enc a0)),(.int .i64 a1)] (lw []) (.tup [(.agg (kD.enc (⟨((r.1).M),(r.1).E⟩:AD))),(.int .i64 r.2)]) (ld []):=by
 unfold r05_Scale
 refine go 0 func179 ntmps179 rfl ?_
 intro E hE
 refine .seq<|.region<|.w (bx 0 rfl)<|.w (al 1 ze26 rfl)<|.p (sg rfl)<|.nil<|.seq<|.seq<|.region<|.p (la ag26 rfl)<|.bind fun x4 h1=>.p (c0 (r05_Right_p h1) rfl)<|.p (sg rfl)<|.nil<|?_
 refine .seq<|.seq<|.seq<|.region<|.p (mv rfl)<|.p (un rfl)<|.nil<|.seq<|?_
 refine T.cond_p rfl iff_nb (fun h2 h3=>?_) (fun h2 h3=>?_)
 ·refine .seq<|.region<|.p (bd ze26 pl26 rfl)<|.n (sa ag26 rfl)<|.p (sg rfl)<|.nil<|.seq<|.ret<|.seq_ret<|fin_2 (.inr rfl) (.nil _) results179 (.a ag26 rfl) (.t rfl) (AVle.refl _)
 ·refine .skip<|.seq<|.seq<|.seq<|?_
  refine T.cut (X:=Bool) (fun x=>r05_Scale_j1 a0 a1 x) (fun x=>(mkS [(1,some (.int .i64 a1)),(2,some (.ptr 0 0)),(4,some (.ptr 1 0)),(17,some (.bool x))] [(0,(.live 26 [(.bool a0.M.Neg),(slK (kInt .u32) a0.M.Mag),(.int .i64 a0.E)])),(1,(.live 26 [(.bool false),(slK (kInt .u32) []),(.int .i64 0)]))])) ?_ ?_
  ·rintro y5
   dsimp only [r05_Scale_j1]
   refine .seq<|?_
   refine T.cond_p rfl iff_b (fun h5 h6=>?_) (fun h5 h6=>?_)
   ·refine .seq<|.region<|.p (bd ze26 pl26 rfl)<|.n (sa ag26 rfl)<|.p (sg rfl)<|.nil<|.seq<|.ret<|.seq_ret<|fin_2 (.inr rfl) (.nil _) results179 (.a ag26 rfl) (.t rfl) (AVle.refl _)
   ·refine .skip<|.seq<|.seq<|.seq<|.region<|.p (fa 0 fl26_0 rfl)<|.p (fa 1 fl24_1 rfl)<|.p (ls sc22 rfl)<|.p (ln underlying22 rfl)<|.p (ar rfl)<|.nil<|.seq<|?_
    refine T.cond_p rfl iff_eq (fun h7 h8=>?_) (fun h7 h8=>?_)
    ·refine .seq<|.region<|.p (la ag26 rfl)<|.n (sa ag26 rfl)<|.p (sg rfl)<|.nil<|.seq<|.ret<|.seq_ret<|fin_2 (.inr rfl) (.nil _) results179 (.a ag26 rfl) (.t rfl) (AVle.refl _)
    ·refine .skip<|.seq<|.seq<|.region<|.p (fa 0 fl26_0 rfl)<|.p (la ag24 rfl)<|.p (fa 2 fl26_1 rfl)<|.p (ls sc3 rfl)<|.p (mv rfl)<|.p (ar rfl)<|.p (bd ze26 pl26 rfl)<|.bind fun x6 h9=>.p (c0 (r05_told_p h9) rfl)<|.p (xt rfl)<|?_
     refine .p (xt rfl)<|.n (sa ag26 rfl)<|.p (sg rfl)<|.nil<|.seq<|.ret<|fin_2 (.inr rfl) (.nil _) results179 (.a ag26 rfl) (.t rfl) (AVle.refl _)
  ·intro h10
   refine .region<|.p (mv rfl)<|.p (ar rfl)<|.p (mv rfl)<|?_
   refine TR.gd 14 _ rfl iff_dec (fun h11=>?_) (fun h11=>?_)
   ·refine .k rfl<|.k rfl<|.p (pt rfl)<|.nil<|.weak (h10 true) (jn (m:=0) [(0,0),(1,1)] hE (.i rfl<|.p rfl rfl<|.p rfl rfl<|.b rfl<|.nil) (.v rfl (.b<|.l<|.i<|.nil)<|.v rfl (.b<|.l<|.i<|.nil)<|.nil) rfl)
   ·refine .p (mv rfl)<|.p (ar rfl)<|.p (pf rfl)<|.nil<|.weak (h10 (decide (a1>100000))) (jn (m:=0) [(0,0),(1,1)] hE (.i rfl<|.p rfl rfl<|.p rfl rfl<|.b rfl<|.nil) (.v rfl (.b<|.l<|.i<|.nil)<|.v rfl (.b<|.l<|.i<|.nil)<|.nil) rfl)
theorem r05_Scale_p {a0:AD} {a1:Int} {r:AD × Int} (h:r05_Scale a0 a1=some r):Pur Tryz.prog 179 [(.agg (kD.enc a0)),(.int .i64 a1)] (.tup [(.agg (kD.enc (⟨((r.1).M),(r.1).E⟩:AD))),(.int .i64 r.2)]):=⟨⟨_,func179,nm179,rfl⟩,r05_Scale_c a0 a1 _ h,fun _=>(.a kD<|.i<|.nil),fun _=>(ren_tupL (.a kD<|.i<|.nil))⟩
theorem r06_CScale_c (a0:AI) (a1:Int) (a2:Int) (a3:Int):∀ r,r06_CScale a0 a1 a2 a3=some r→ACalls Tryz.prog 128 [(.ptr 0 0),(.agg (kI.enc a0)),(.int .i64 a1)] (lw [(.live 65 [(.int .i64 a2),(.int .i64 a3)])]) (.agg (kI.enc (⟨⟨(((r.1).Lo).M),((r.1).Lo).E⟩,⟨(((r.1).Hi).M),((r.1).Hi).E⟩⟩:AI))) (ld [(.live 65 [(.int .i64 a2),(.int .i64 r.2)])]):=by
 unfold r06_CScale
 refine go 1 func128 ntmps128 rfl ?_
 intro E hE
 refine .seq<|.region<|.w (bx 1 rfl)<|.w (al 2 ze34 rfl)<|.nil<|.seq<|.seq<|.seq<|.region<|.p (mv rfl)<|.p (la ag34 rfl)<|?_
 refine TR.st 13 (slK kI [a0]) [] (snd_buildSlice _ _ _ 6 _ _ [(0,(.agg (kI.enc a0)))] (List.map kI.enc [a0]) rfl underlying104 ze34 si34 rfl rfl rfl (by decide) (by decide) (by decide) rfl rfl (Kd.even _) rfl) rfl rfl rfl ?_
 refine .bind fun x7 h1=>.w (cl (r06_Carg_k h1) [0] [] [true] rfl (.p rfl<|.l<|.nil) (.p rfl (.i<|.i<|.nil) .nil) fnil (.cons (.v (.i<|.i<|.nil)) .nil) (.bool _) (.turned .nil) rfl)<|.p (un rfl)<|.nil<|.seq<|?_
 refine T.cond_p rfl iff_nb (fun h2 h3=>?_) (fun h2 h3=>?_)
 ·refine .seq<|.region<|.p (bd ze34 pl34 rfl)<|.n (sa ag34 rfl)<|.nil<|.seq<|.ret<|.seq_ret<|fin_1 (.inr rfl) (.k rfl (.nil _)) results128 (.a ag34 rfl) (AVle.refl _)
 ·refine .skip<|.seq<|.seq<|.region<|.p (fa 0 fl34_0 rfl)<|.p (la ag26 rfl)<|.p (mv rfl)<|.bind fun x8 h4=>.p (c0 (r05_Scale_p h4) rfl)<|.p (mv rfl)<|.p (xt rfl)<|.p (xt rfl)<|.w (al 3 ze26 rfl)<|.n (sa ag26 rfl)<|?_
  refine .p (sg rfl)<|.nil<|.seq<|.seq<|.seq<|.region<|.p (mv rfl)<|.p (mv rfl)<|.bind fun x9 h5=>.w (cl (r06_Cerr_k h5) [0] [] [true] rfl (.p rfl<|.i<|.nil) (.p rfl (.i<|.i<|.nil) .nil) fnil (.cons (.v (.i<|.i<|.nil)) .nil) (.bool _) (.turned .nil) rfl)<|.p (un rfl)<|.nil<|.seq<|?_
  refine T.cond_p rfl iff_nb (fun h6 h7=>?_) (fun h6 h7=>?_)
  ·refine .seq<|.region<|.p (bd ze34 pl34 rfl)<|.n (sa ag34 rfl)<|.nil<|.seq<|.ret<|.seq_ret<|fin_1 (.inr rfl) (.k rfl (.nil _)) results128 (.a ag34 rfl) (AVle.refl _)
  ·refine .skip<|.seq<|.seq<|.region<|.p (fa 3 fl34_1 rfl)<|.p (la ag26 rfl)<|.p (mv rfl)<|.bind fun x10 h8=>.p (c0 (r05_Scale_p h8) rfl)<|.p (mv rfl)<|.p (xt rfl)<|.p (xt rfl)<|.w (al 4 ze26 rfl)<|.n (sa ag26 rfl)<|?_
   refine .p (sg rfl)<|.nil<|.seq<|.seq<|.region<|.p (mv rfl)<|.p (mv rfl)<|.bind fun x11 h9=>.w (cl (r06_Cerr_k h9) [0] [] [true] rfl (.p rfl<|.i<|.nil) (.p rfl (.i<|.i<|.nil) .nil) fnil (.cons (.v (.i<|.i<|.nil)) .nil) (.bool _) (.turned .nil) rfl)<|.nil<|.seq<|.seq<|.region<|.p (mv rfl)<|?_
   refine .p (la ag26 rfl)<|.p (la ag26 rfl)<|.bind fun x12 h10=>.p (cl (r06_Cout_k h10) [0] [] [false] rfl (.p rfl<|.a kD<|.a kD<|.nil) (.p rfl (.i<|.i<|.nil) .nil) fnil (.cons (.v (.i<|.i<|.nil)) .nil) (ren_agg (K:=kI) _) (.kept rfl .nil) rfl)<|.n (sa ag34 rfl)<|.nil<|.seq<|.ret<|fin_1 (.inr rfl) (.k rfl (.nil _)) results128 (.a ag34 rfl) (AVle.refl _)
theorem r06_CScale_k {a0:AI} {a1:Int} {a2:Int} {a3:Int} {r:AI × Int} (h:r06_CScale a0 a1 a2 a3=some r):Cal Tryz.prog 128 [(.ptr 0 0),(.agg (kI.enc a0)),(.int .i64 a1)] [(.live 65 [(.int .i64 a2),(.int .i64 a3)])] (.agg (kI.enc (⟨⟨(((r.1).Lo).M),((r.1).Lo).E⟩,⟨(((r.1).Hi).M),((r.1).Hi).E⟩⟩:AI))) [(.live 65 [(.int .i64 a2),(.int .i64 r.2)])]:=⟨⟨_,func128,nm128,rfl⟩,r06_CScale_c a0 a1 a2 a3 _ h⟩
theorem r06_CSub_c (a0:AI) (a1:AI) (a2:Int) (a3:Int):∀ r,r06_CSub a0 a1 a2 a3=some r→ACalls Tryz.prog 127 [(.ptr 0 0),(.agg (kI.enc a0)),(.agg (kI.enc a1))] (lw [(.live 65 [(.int .i64 a2),(.int .i64 a3)])]) (.agg (kI.enc (⟨⟨(((r.1).Lo).M),((r.1).Lo).E⟩,⟨(((r.1).Hi).M),((r.1).Hi).E⟩⟩:AI))) (ld [(.live 65 [(.int .i64 a2),(.int .i64 r.2)])]):=by
 unfold r06_CSub
 refine go 1 func127 ntmps127 rfl ?_
 intro E hE
 refine .seq<|.region<|.w (bx 1 rfl)<|.w (bx 2 rfl)<|.w (al 3 ze34 rfl)<|.nil<|.seq<|.seq<|.seq<|.region<|.p (mv rfl)<|.p (la ag34 rfl)<|.p (la ag34 rfl)<|?_
 refine TR.st 10 (slK kI [a0,a1]) [] (snd_buildSlice _ _ _ 6 _ _ [(0,(.agg (kI.enc a0))),(1,(.agg (kI.enc a1)))] (List.map kI.enc [a0,a1]) rfl underlying104 ze34 si34 rfl rfl rfl (by decide) (by decide) (by decide) rfl rfl (Kd.even _) rfl) rfl rfl rfl ?_
 refine .bind fun x4 h1=>.w (cl (r06_Carg_k h1) [0] [] [true] rfl (.p rfl<|.l<|.nil) (.p rfl (.i<|.i<|.nil) .nil) fnil (.cons (.v (.i<|.i<|.nil)) .nil) (.bool _) (.turned .nil) rfl)<|.p (un rfl)<|.nil<|.seq<|?_
 refine T.cond_p rfl iff_nb (fun h2 h3=>?_) (fun h2 h3=>?_)
 ·refine .seq<|.region<|.p (bd ze34 pl34 rfl)<|.n (sa ag34 rfl)<|.nil<|.seq<|.ret<|.seq_ret<|fin_1 (.inr rfl) (.k rfl (.nil _)) results127 (.a ag34 rfl) (AVle.refl _)
 ·refine .skip<|.seq<|.seq<|.draw mixed<|.p (mv rfl)<|.p (la ag34 rfl)<|.p (mv rfl)<|.p (la ag34 rfl)<|.bind fun x5 h4=>.w (cl (r06_CNeg_k h4) [0] [] [true] rfl (.p rfl<|.a kI<|.nil) (.p rfl (.i<|.i<|.nil) .nil) fnil (.cons (.v (.i<|.i<|.nil)) .nil) (ren_agg (K:=kI) _) (.turned .nil) rfl)<|.bind fun x6 h5=>.w (cl (r06_CAdd_k h5) [0] [] [true] rfl (.p rfl<|.a kI<|.a kI<|.nil) (.p rfl (.i<|.i<|.nil) .nil) fnil (.cons (.v (.i<|.i<|.nil)) .nil) (ren_agg (K:=kI) _) (.turned .nil) rfl)<|.n (sa ag34 rfl)<|.nil (by kernel_rfl)<|?_
  refine .seq<|.ret<|fin_1 (.inr rfl) (.k rfl (.nil _)) results127 (.a ag34 rfl) (AVle.refl _)
theorem r06_CSub_k {a0:AI} {a1:AI} {a2:Int} {a3:Int} {r:AI × Int} (h:r06_CSub a0 a1 a2 a3=some r):Cal Tryz.prog 127 [(.ptr 0 0),(.agg (kI.enc a0)),(.agg (kI.enc a1))] [(.live 65 [(.int .i64 a2),(.int .i64 a3)])] (.agg (kI.enc (⟨⟨(((r.1).Lo).M),((r.1).Lo).E⟩,⟨(((r.1).Hi).M),((r.1).Hi).E⟩⟩:AI))) [(.live 65 [(.int .i64 a2),(.int .i64 r.2)])]:=⟨⟨_,func127,nm127,rfl⟩,r06_CSub_c a0 a1 a2 a3 _ h⟩
theorem r08_Pi_c (a0:Int) (a1:Int):∀ r,r08_Pi a0 a1=some r→ACalls Tryz.prog 67 [(.ptr 0 0)] (lw [(.live 65 [(.int .i64 a0),(.int .i64 a1)])]) (.agg (kI.enc (⟨⟨(((r.1).Lo).M),((r.1).Lo).E⟩,⟨(((r.1).Hi).M),((r.1).Hi).E⟩⟩:AI))) (ld [(.live 65 [(.int .i64 a0),(.int .i64 r.2)])]):=by
 unfold r08_Pi
 refine go 1 func67 ntmps67 rfl ?_
 intro E hE
 refine .seq<|.region<|.w (al 1 ze34 rfl)<|.nil<|.seq<|.seq<|.region<|.p (mv rfl)<|.p (mv rfl)<|.p (mv rfl)<|.bind fun x12 h1=>.w (cl (r06_CInt_k h1) [0] [] [true] rfl (.p rfl<|.i<|.nil) (.p rfl (.i<|.i<|.nil) .nil) fnil (.cons (.v (.i<|.i<|.nil)) .nil) (ren_agg (K:=kI) _) (.turned .nil) rfl)<|.p (mv rfl)<|.bind fun x13 h2=>?_
 refine .w (cl (r06_CInt_k h2) [0] [] [true] rfl (.p rfl<|.i<|.nil) (.p rfl (.i<|.i<|.nil) .nil) fnil (.cons (.v (.i<|.i<|.nil)) .nil) (ren_agg (K:=kI) _) (.turned .nil) rfl)<|.bind fun x14 h3=>.w (cl (r06_CDiv_k h3) [0] [] [true] rfl (.p rfl<|.a kI<|.a kI<|.nil) (.p rfl (.i<|.i<|.nil) .nil) fnil (.cons (.v (.i<|.i<|.nil)) .nil) (ren_agg (K:=kI) _) (.turned .nil) rfl)<|.bind fun x15 h4=>.w (cl (r07_Atan_k h4) [0] [] [true] rfl (.p rfl<|.a kI<|.nil) (.p rfl (.i<|.i<|.nil) .nil) fnil (.cons (.v (.i<|.i<|.nil)) .nil) (ren_agg (K:=kI) _) (.turned .nil) rfl)<|.w (al 2 ze34 rfl)<|.n (sa ag34 rfl)<|.nil<|.seq<|.seq<|.region<|.p (mv rfl)<|.p (mv rfl)<|.p (mv rfl)<|?_
 refine .bind fun x16 h5=>.w (cl (r06_CInt_k h5) [0] [] [true] rfl (.p rfl<|.i<|.nil) (.p rfl (.i<|.i<|.nil) .nil) fnil (.cons (.v (.i<|.i<|.nil)) .nil) (ren_agg (K:=kI) _) (.turned .nil) rfl)<|.p (mv rfl)<|.bind fun x17 h6=>.w (cl (r06_CInt_k h6) [0] [] [true] rfl (.p rfl<|.i<|.nil) (.p rfl (.i<|.i<|.nil) .nil) fnil (.cons (.v (.i<|.i<|.nil)) .nil) (ren_agg (K:=kI) _) (.turned .nil) rfl)<|.bind fun x18 h7=>.w (cl (r06_CDiv_k h7) [0] [] [true] rfl (.p rfl<|.a kI<|.a kI<|.nil) (.p rfl (.i<|.i<|.nil) .nil) fnil (.cons (.v (.i<|.i<|.nil)) .nil) (ren_agg (K:=kI) _) (.turned .nil) rfl)<|.bind fun x19 h8=>.w (cl (r07_Atan_k h8) [0] [] [true] rfl (.p rfl<|.a kI<|.nil) (.p rfl (.i<|.i<|.nil) .nil) fnil (.cons (.v (.i<|.i<|.nil)) .nil) (ren_agg (K:=kI) _) (.turned .nil) rfl)<|.w (al 3 ze34 rfl)<|.n (sa ag34 rfl)<|.nil<|.seq<|.seq<|?_
 refine .draw mixed<|.p (mv rfl)<|.p (mv rfl)<|.p (la ag34 rfl)<|.bind fun x20 h9=>.w (cl (r06_CScale_k h9) [0] [] [true] rfl (.p rfl<|.a kI<|.i<|.nil) (.p rfl (.i<|.i<|.nil) .nil) fnil (.cons (.v (.i<|.i<|.nil)) .nil) (ren_agg (K:=kI) _) (.turned .nil) rfl)<|.p (mv rfl)<|.p (la ag34 rfl)<|.bind fun x21 h10=>.w (cl (r06_CScale_k h10) [0] [] [true] rfl (.p rfl<|.a kI<|.i<|.nil) (.p rfl (.i<|.i<|.nil) .nil) fnil (.cons (.v (.i<|.i<|.nil)) .nil) (ren_agg (K:=kI) _) (.turned .nil) rfl)<|.bind fun x22 h11=>.w (cl (r06_CSub_k h11) [0] [] [true] rfl (.p rfl<|.a kI<|.a kI<|.nil) (.p rfl (.i<|.i<|.nil) .nil) fnil (.cons (.v (.i<|.i<|.nil)) .nil) (ren_agg (K:=kI) _) (.turned .nil) rfl)<|.n (sa ag34 rfl)<|.nil (by kernel_rfl)<|?_
 refine .seq<|.ret<|fin_1 (.inr rfl) (.k rfl (.nil _)) results67 (.a ag34 rfl) (AVle.refl _)
theorem r08_Pi_k {a0:Int} {a1:Int} {r:AI × Int} (h:r08_Pi a0 a1=some r):Cal Tryz.prog 67 [(.ptr 0 0)] [(.live 65 [(.int .i64 a0),(.int .i64 a1)])] (.agg (kI.enc (⟨⟨(((r.1).Lo).M),((r.1).Lo).E⟩,⟨(((r.1).Hi).M),((r.1).Hi).E⟩⟩:AI))) [(.live 65 [(.int .i64 a0),(.int .i64 r.2)])]:=⟨⟨_,func67,nm67,rfl⟩,r08_Pi_c a0 a1 _ h⟩
theorem r04_Same_c (a0:ApiInt) (a1:ApiInt):∀ r,r04_Same a0 a1=some r→ACalls Tryz.prog 188 [(.agg (kN.enc a0)),(.agg (kN.enc a1))] (lw []) (.bool r) (ld []):=by
 unfold r04_Same
 refine go 0 func188 ntmps188 rfl ?_
 intro E hE
 refine .seq<|.region<|.w (bx 0 rfl)<|.w (bx 1 rfl)<|.p (sg rfl)<|.nil<|.seq<|.seq<|.seq<|?_
 refine T.cut (X:=Bool) (fun x=>r04_Same_j1 a0 a1 x) (fun x=>(mkS [(2,some (.ptr 0 0)),(3,some (.ptr 1 0)),(19,some (.bool x))] [(0,(.live 24 [(.bool a0.Neg),(slK (kInt .u32) a0.Mag)])),(1,(.live 24 [(.bool a1.Neg),(slK (kInt .u32) a1.Mag)]))])) ?_ ?_
 ·rintro y6
  dsimp only [r04_Same_j1]
  refine .seq<|?_
  refine T.cond_p rfl iff_b (fun h2 h3=>?_) (fun h2 h3=>?_)
  ·refine .seq<|.region<|.p (sg rfl)<|.nil<|.seq<|.ret<|.seq_ret<|fin_1 (.inr rfl) (.nil _) results188 (.t rfl) (AVle.refl _)
  ·refine .skip<|.seq<|.seq<|.seq<|.region<|.p (sg rfl)<|.nil<|.seq<|?_
   refine T.cut (X:=Unit) (fun x=>r04_Same_j2) (fun x=>(mkS [] [])) ?_ ?_
   ·rintro _
    dsimp only [r04_Same_j2]
    refine .seq<|.seq<|.region<|.p (sg rfl)<|.nil<|.seq<|.ret<|fin_1 (.inr rfl) (.nil _) results188 (.t rfl) (AVle.refl _)
   ·intro h34
    refine .block<|.loopW (X:=Int) (fun n x=>r04_Same_l3 a0 a1 n x) (fun x=>(mkS [(2,some (.ptr 0 0)),(3,some (.ptr 1 0)),(5,some (.int .i64 x))] [(0,(.live 24 [(.bool a0.Neg),(slK (kInt .u32) a0.Mag)])),(1,(.live 24 [(.bool a1.Neg),(slK (kInt .u32) a1.Mag)]))])) 0 (jn (m:=0) [(0,0),(1,1)] hE (.p rfl rfl<|.p rfl rfl<|.i rfl<|.nil) (.v rfl (.b<|.l<|.nil)<|.v rfl (.b<|.l<|.nil)<|.nil) rfl) (fun _=>rfl) rfl<|?_
    rintro n3 y10
    try dsimp only
    rw [r04_Same_l3]
    refine .seq<|.seq<|.region<|.p (mv rfl)<|.p (fa 1 fl24_1 rfl)<|.p (ls sc22 rfl)<|.p (ln underlying22 rfl)<|.p (ar rfl)<|.nil<|.seq<|?_
    refine T.cond_p rfl iff_dec (fun h55 h56=>?_) (fun h55 h56=>?_)
    ·refine .skip<|.seq<|.seq<|.block<|.seq<|.draw mixed<|.p (fa 1 fl24_1 rfl)<|.p (ls sc22 rfl)<|.p (mv rfl)<|.guard fun h61=>?_
     refine TD.st 30 (.iptr [(.int .u32 (a0.Mag.getD y10.toNat (kInt .u32).z))]) [] (snd_indexK (kInt .u32) _ _ _ _ _ _ y10 rfl underlying22 si77 rfl rfl rfl rfl h61) rfl rfl rfl ?_
     refine .p (lsi sc77 rfl)<|.p (fa 1 fl24_1 rfl)<|.p (ls sc22 rfl)<|.p (mv rfl)<|.guard fun h62=>?_
     refine TD.st 35 (.iptr [(.int .u32 (a1.Mag.getD y10.toNat (kInt .u32).z))]) [] (snd_indexK (kInt .u32) _ _ _ _ _ _ y10 rfl underlying22 si77 rfl rfl rfl rfl h62) rfl rfl rfl ?_
     refine .p (lsi sc77 rfl)<|.p (ar rfl)<|.nil (by kernel_rfl)<|.seq<|?_
     refine T.cond_p rfl iff_ne (fun h63 h64=>?_) (fun h63 h64=>?_)
     ·refine .seq<|.region<|.p (sg rfl)<|.nil<|.seq<|.ret<|.block_ret<|.seq_ret<|.loop_ret<|.block_ret<|.seq_ret<|fin_1 (.inr rfl) (.nil _) results188 (.t rfl) (AVle.refl _)
     ·refine .skip<|.block<|.seq<|.region<|.p (mv rfl)<|.p (ar rfl)<|.p (sg rfl)<|.nil<|.again (IntKind.i64.wrap (y10+1)) (jn (m:=0) [(0,0),(1,1)] hE (.p rfl rfl<|.p rfl rfl<|.i rfl<|.nil) (.v rfl (.b<|.l<|.nil)<|.v rfl (.b<|.l<|.nil)<|.nil) rfl) rfl
    ·refine .exit<|.seq_exit<|.loop_exit<|.block_exit<|.weak (h34 ()) (jn (m:=0) [] hE .nil .nil rfl)
 ·intro h65
  refine .region<|.p (fa 0 fl24_0 rfl)<|.p (ls sc4 rfl)<|.p (fa 0 fl24_0 rfl)<|.p (ls sc4 rfl)<|?_
  refine TR.st 10 (.bool (a0.Neg != a1.Neg)) [] (snd_bool_neq _ _ _ _ _ _ rfl underlying4 rfl rfl rfl rfl) rfl rfl rfl ?_
  refine .p (mv rfl)<|?_
  refine TR.gd 11 _ rfl iff_b (fun h66=>?_) (fun h66=>?_)
  ·refine .k rfl<|.k rfl<|.k rfl<|.k rfl<|.k rfl<|.k rfl<|.k rfl<|.p (pt rfl)<|.nil<|.weak (h65 true) (jn (m:=0) [(0,0),(1,1)] hE (.p rfl rfl<|.p rfl rfl<|.b rfl<|.nil) (.v rfl (.b<|.l<|.nil)<|.v rfl (.b<|.l<|.nil)<|.nil) rfl)
  ·refine .p (fa 1 fl24_1 rfl)<|.p (ls sc22 rfl)<|.p (ln underlying22 rfl)<|.p (fa 1 fl24_1 rfl)<|.p (ls sc22 rfl)<|.p (ln underlying22 rfl)<|.p (ar rfl)<|.p (pf rfl)<|.nil<|.weak (h65 ((a0.Mag.length:Int) != (a1.Mag.length:Int))) (jn (m:=0) [(0,0),(1,1)] hE (.p rfl rfl<|.p rfl rfl<|.b rfl<|.nil) (.v rfl (.b<|.l<|.nil)<|.v rfl (.b<|.l<|.nil)<|.nil) rfl)
theorem r04_Same_p {a0:ApiInt} {a1:ApiInt} {r:Bool} (h:r04_Same a0 a1=some r):Pur Tryz.prog 188 [(.agg (kN.enc a0)),(.agg (kN.enc a1))] (.bool r):=⟨⟨_,func188,nm188,rfl⟩,r04_Same_c a0 a1 _ h,fun _=>(.a kN<|.a kN<|.nil),fun _=>(.bool _)⟩
theorem r05_Same_c (a0:AD) (a1:AD):∀ r,r05_Same a0 a1=some r→ACalls Tryz.prog 149 [(.agg (kD.enc a0)),(.agg (kD.enc a1))] (lw []) (.bool r) (ld []):=by
 unfold r05_Same
 refine go 0 func149 ntmps149 rfl ?_
 intro E hE
 refine .seq<|.region<|.w (bx 0 rfl)<|.w (bx 1 rfl)<|.p (sg rfl)<|.nil<|.seq<|.seq<|?_
 refine T.cut (X:=Bool) (fun x=>r05_Same_j1 x) (fun x=>(mkS [(4,some (.bool x))] [])) ?_ ?_
 ·rintro y5
  dsimp only [r05_Same_j1]
  refine .seq<|.ret<|fin_1 (.inr rfl) (.nil _) results149 (.t rfl) (AVle.refl _)
 ·intro h3
  refine .region<|.p (fa 2 fl26_1 rfl)<|.p (ls sc3 rfl)<|.p (fa 2 fl26_1 rfl)<|.p (ls sc3 rfl)<|.p (ar rfl)<|.p (mv rfl)<|?_
  refine TR.gd 10 _ rfl iff_eq (fun h4=>?_) (fun h4=>?_)
  ·refine .p (fa 0 fl26_0 rfl)<|.p (la ag24 rfl)<|.p (fa 0 fl26_0 rfl)<|.p (la ag24 rfl)<|.bind fun x6 h5=>.p (c0 (r04_Same_p h5) rfl)<|.p (pt rfl)<|.p (sg rfl)<|.nil<|.weak (h3 x6) (jn (m:=0) [] hE (.b rfl<|.nil) .nil rfl)
  ·refine .k rfl<|.k rfl<|.k rfl<|.k rfl<|.k rfl<|.p (pf rfl)<|.p (sg rfl)<|.nil<|.weak (h3 false) (jn (m:=0) [] hE (.b rfl<|.nil) .nil rfl)
theorem r05_Same_p {a0:AD} {a1:AD} {r:Bool} (h:r05_Same a0 a1=some r):Pur Tryz.prog 149 [(.agg (kD.enc a0)),(.agg (kD.enc a1))] (.bool r):=⟨⟨_,func149,nm149,rfl⟩,r05_Same_c a0 a1 _ h,fun _=>(.a kD<|.a kD<|.nil),fun _=>(.bool _)⟩
theorem r06_Same_c (a0:AI) (a1:AI):∀ r,r06_Same a0 a1=some r→ACalls Tryz.prog 93 [(.agg (kI.enc a0)),(.agg (kI.enc a1))] (lw []) (.bool r) (ld []):=by
 unfold r06_Same
 refine go 0 func93 ntmps93 rfl ?_
 intro E hE
 refine .seq<|.region<|.w (bx 0 rfl)<|.w (bx 1 rfl)<|.p (sg rfl)<|.nil<|.seq<|.seq<|?_
 refine T.cut (X:=Bool) (fun x=>r06_Same_j1 x) (fun x=>(mkS [(4,some (.bool x))] [])) ?_ ?_
 ·rintro y8
  dsimp only [r06_Same_j1]
  refine .seq<|.ret<|fin_1 (.inr rfl) (.nil _) results93 (.t rfl) (AVle.refl _)
 ·intro h4
  refine .region<|.p (fa 0 fl34_0 rfl)<|.p (la ag26 rfl)<|.p (fa 0 fl34_0 rfl)<|.p (la ag26 rfl)<|.bind fun x9 h5=>.p (c0 (r05_Same_p h5) rfl)<|.p (mv rfl)<|?_
  refine TR.gd 10 _ rfl iff_b (fun h6=>?_) (fun h6=>?_)
  ·refine .p (fa 3 fl34_1 rfl)<|.p (la ag26 rfl)<|.p (fa 3 fl34_1 rfl)<|.p (la ag26 rfl)<|.bind fun x10 h7=>.p (c0 (r05_Same_p h7) rfl)<|.p (pt rfl)<|.p (sg rfl)<|.nil<|.weak (h4 x10) (jn (m:=0) [] hE (.b rfl<|.nil) .nil rfl)
  ·refine .k rfl<|.k rfl<|.k rfl<|.k rfl<|.k rfl<|.p (pf rfl)<|.p (sg rfl)<|.nil<|.weak (h4 false) (jn (m:=0) [] hE (.b rfl<|.nil) .nil rfl)
theorem r06_Same_p {a0:AI} {a1:AI} {r:Bool} (h:r06_Same a0 a1=some r):Pur Tryz.prog 93 [(.agg (kI.enc a0)),(.agg (kI.enc a1))] (.bool r):=⟨⟨_,func93,nm93,rfl⟩,r06_Same_c a0 a1 _ h,fun _=>(.a kI<|.a kI<|.nil),fun _=>(.bool _)⟩
theorem l08_same_c (a0:AI) (a1:AI):∀ r,l08_same a0 a1=some r→ACalls Tryz.prog 66 [(.agg (kI.enc a0)),(.agg (kI.enc a1))] (lw []) (.bool r) (ld []):=by
 unfold l08_same
 refine go 0 func66 ntmps66 rfl ?_
 intro E hE
 refine .seq<|.region<|.w (bx 0 rfl)<|.w (bx 1 rfl)<|.p (sg rfl)<|.nil<|.seq<|.seq<|.region<|.p (la ag34 rfl)<|.p (la ag34 rfl)<|.bind fun x2 h1=>.p (c0 (r06_Same_p h1) rfl)<|.p (sg rfl)<|?_
 refine .nil<|.seq<|.ret<|fin_1 (.inr rfl) (.nil _) results66 (.t rfl) (AVle.refl _)
theorem l08_same_p {a0:AI} {a1:AI} {r:Bool} (h:l08_same a0 a1=some r):Pur Tryz.prog 66 [(.agg (kI.enc a0)),(.agg (kI.enc a1))] (.bool r):=⟨⟨_,func66,nm66,rfl⟩,l08_same_c a0 a1 _ h,fun _=>(.a kI<|.a kI<|.nil),fun _=>(.bool _)⟩
theorem small_Atanh_1_c (a0:AI):∀ r,small_Atanh_1 a0=some r→ACalls Tryz.prog 120 [(.agg (kI.enc a0))] (lw []) (.agg (kI.enc (⟨⟨(((r).Lo).M),((r).Lo).E⟩,⟨(((r).Hi).M),((r).Hi).E⟩⟩:AI))) (ld []):=by
 unfold small_Atanh_1
 refine go 0 func120 ntmps120 rfl ?_
 intro E hE
 refine .seq<|.region<|.w (bx 0 rfl)<|.w (al 1 ze34 rfl)<|.nil<|.seq<|.seq<|.region<|.p (la ag34 rfl)<|.n (sa ag34 rfl)<|.nil<|.seq<|.ret<|fin_1 (.inr rfl) (.nil _) results120 (.a ag34 rfl) (AVle.refl _)
theorem small_Atanh_1_p {a0:AI} {r:AI} (h:small_Atanh_1 a0=some r):Pur Tryz.prog 120 [(.agg (kI.enc a0))] (.agg (kI.enc (⟨⟨(((r).Lo).M),((r).Lo).E⟩,⟨(((r).Hi).M),((r).Hi).E⟩⟩:AI))):=⟨⟨_,func120,nm120,rfl⟩,small_Atanh_1_c a0 _ h,fun _=>(.a kI<|.nil),fun _=>(ren_agg (K:=kI) _)⟩
theorem small_odd_1_da03_c (a0:Int) (a1:AI) (a2:Int) (a3:Int) (a4:Bool) (a5:List Int) (a6:Int) (a7:Bool) (a8:List Int) (a9:Int):∀ r,small_odd_1_da03 a0 a1 a2 a3 a4 a5 a6 a7 a8 a9=some r→ACalls Tryz.prog 175 [(.int .i64 a0),(.agg (kI.enc a1)),(.ptr 0 0),(.ptr 1 0),(.ptr 3 0)] (lw [(.live 47 [(.fn 120 [] [])]),(.live 28 [(.ptr 2 0)]),(.live 45 [(.int .i64 a2),(.int .i64 a3)]),(.live 34 [(.bool a4),(slK (kInt .u32) a5),(.int .i64 a6),(.bool a7),(slK (kInt .u32) a8),(.int .i64 a9)])]) (.tup [(.agg (kI.enc (⟨⟨(((r.1).Lo).M),((r.1).Lo).E⟩,⟨(((r.1).Hi).M),((r.1).Hi).E⟩⟩:AI))),(.agg (kI.enc (⟨⟨(((r.2.1).Lo).M),((r.2.1).Lo).E⟩,⟨(((r.2.1).Hi).M),((r.2.1).Hi).E⟩⟩:AI)))]) (ld [(.live 47 [(.fn 120 [] [])]),(.live 28 [(.ptr 2 0)]),(.live 45 [(.int .i64 r.2.2),(.int .i64 a3)]),(.live 34 [(.bool a4),(slK (kInt .u32) a5),(.int .i64 a6),(.bool a7),(slK (kInt .u32) a8),(.int .i64 a9)])]):=by
 unfold small_odd_1_da03
 refine go 4 func175 ntmps175 rfl ?_
 intro E hE
 refine .seq<|.region<|.w (bx 4 rfl)<|.w (al 5 ze34 rfl)<|.w (al 6 ze34 rfl)<|.nil<|.seq<|.seq<|.draw mixed<|.p (ls sc47 rfl)<|.p (ls sc28 rfl)<|.p (la ag34 rfl)<|.p (la ag34 rfl)<|.bind fun x5 h1=>?_
 refine .w (cl (cv_Mul_k h1) [2] [] [true] rfl (.p rfl<|.a kI<|.a kI<|.nil) (.p rfl (.i<|.i<|.nil) .nil) fnil (.cons (.v (.i<|.i<|.nil)) .nil) (ren_agg (K:=kI) _) (.turned .nil) rfl)<|.bind fun x6 h2=>.p (c0 (small_Atanh_1_p h2) rfl)<|.n (sa ag34 rfl)<|.nil (by kernel_rfl)<|.seq<|.seq<|.draw mixed<|.p (la ag34 rfl)<|.p (ls sc28 rfl)<|.p (la ag34 rfl)<|.p (ls sc28 rfl)<|.p (mv rfl)<|.p (ar rfl)<|?_
 refine .p (ar rfl)<|.bind fun x7 h3=>.w (cl (cv_Int_k h3) [2] [] [true] rfl (.p rfl<|.i<|.nil) (.p rfl (.i<|.i<|.nil) .nil) fnil (.cons (.v (.i<|.i<|.nil)) .nil) (ren_agg (K:=kI) _) (.turned .nil) rfl)<|.bind fun x8 h4=>.w (cl (cv_Div_k h4) [2] [] [true] rfl (.p rfl<|.a kI<|.a kI<|.nil) (.p rfl (.i<|.i<|.nil) .nil) fnil (.cons (.v (.i<|.i<|.nil)) .nil) (ren_agg (K:=kI) _) (.turned .nil) rfl)<|.n (sa ag34 rfl)<|.n (sa ag34 rfl)<|.nil (by kernel_rfl)<|.seq<|.ret<|fin_2 (.inr rfl) (.k rfl (.k rfl (.k rfl (.k rfl (.nil _))))) results175 (.a ag34 rfl) (.a ag34 rfl) (AVle.refl _)
theorem small_odd_1_da03_k {a0:Int} {a1:AI} {a2:Int} {a3:Int} {a4:Bool} {a5:List Int} {a6:Int} {a7:Bool} {a8:List Int} {a9:Int} {r:AI × AI × Int} (h:small_odd_1_da03 a0 a1 a2 a3 a4 a5 a6 a7 a8 a9=some r):Cal Tryz.prog 175 [(.int .i64 a0),(.agg (kI.enc a1)),(.ptr 0 0),(.ptr 1 0),(.ptr 3 0)] [(.live 47 [(.fn 120 [] [])]),(.live 28 [(.ptr 2 0)]),(.live 45 [(.int .i64 a2),(.int .i64 a3)]),(.live 34 [(.bool a4),(slK (kInt .u32) a5),(.int .i64 a6),(.bool a7),(slK (kInt .u32) a8),(.int .i64 a9)])] (.tup [(.agg (kI.enc (⟨⟨(((r.1).Lo).M),((r.1).Lo).E⟩,⟨(((r.1).Hi).M),((r.1).Hi).E⟩⟩:AI))),(.agg (kI.enc (⟨⟨(((r.2.1).Lo).M),((r.2.1).Lo).E⟩,⟨(((r.2.1).Hi).M),((r.2.1).Hi).E⟩⟩:AI)))]) [(.live 47 [(.fn 120 [] [])]),(.live 28 [(.ptr 2 0)]),(.live 45 [(.int .i64 r.2.2),(.int .i64 a3)]),(.live 34 [(.bool a4),(slK (kInt .u32) a5),(.int .i64 a6),(.bool a7),(slK (kInt .u32) a8),(.int .i64 a9)])]:=⟨⟨_,func175,nm175,rfl⟩,small_odd_1_da03_c a0 a1 a2 a3 a4 a5 a6 a7 a8 a9 _ h⟩
theorem small_series_78b1_c (a0:AI) (a1:Int) (a2:Int) (a3:Bool) (a4:List Int) (a5:Int) (a6:Bool) (a7:List Int) (a8:Int):∀ r,small_series_78b1 a0 a1 a2 a3 a4 a5 a6 a7 a8=some r→ACalls Tryz.prog 154 [(.ptr 0 0),(.agg (kI.enc a0)),(.fn 175 [] [(.ptr 1 0),(.ptr 2 0),(.ptr 3 0)])] (lw [(.live 45 [(.int .i64 a1),(.int .i64 a2)]),(.live 47 [(.fn 120 [] [])]),(.live 28 [(.ptr 0 0)]),(.live 34 [(.bool a3),(slK (kInt .u32) a4),(.int .i64 a5),(.bool a6),(slK (kInt .u32) a7),(.int .i64 a8)])]) (.agg (kI.enc (⟨⟨(((r.1).Lo).M),((r.1).Lo).E⟩,⟨(((r.1).Hi).M),((r.1).Hi).E⟩⟩:AI))) (ld [(.live 45 [(.int .i64 r.2),(.int .i64 a2)]),(.live 47 [(.fn 120 [] [])]),(.live 28 [(.ptr 0 0)]),(.live 34 [(.bool a3),(slK (kInt .u32) a4),(.int .i64 a5),(.bool a6),(slK (kInt .u32) a7),(.int .i64 a8)])]):=by
 unfold small_series_78b1
 refine go 4 func154 ntmps154 rfl ?_
 intro E hE
 refine .seq<|.region<|.w (bx 4 rfl)<|.w (al 5 ze34 rfl)<|.nil<|.seq<|.seq<|.draw mixed<|.p (la ag34 rfl)<|.p (la ag34 rfl)<|.w (al 6 ze34 rfl)<|.w (al 7 ze34 rfl)<|.n (sa ag34 rfl)<|.n (sa ag34 rfl)<|?_
 refine .nil (by kernel_rfl)<|.seq<|.seq<|.seq<|.region<|.p (mv rfl)<|.bind fun x93 h1=>.p (cl (cv_Prec_k h1) [0] [] [false] rfl (.p rfl<|.nil) (.p rfl (.i<|.i<|.nil) .nil) fnil (.cons (.v (.i<|.i<|.nil)) .nil) (.int _ _) (.kept rfl .nil) rfl)<|.bind fun x94 h2=>.p (c0 (small_Terms_p h2) rfl)<|.p (mv rfl)<|.nil<|.seq<|?_
 refine T.cut (X:=Int × Bool × (List Int) × Int × Bool × (List Int) × Int) (fun x=>small_series_78b1_j1 a2 x.1 x.2.1 x.2.2.1 x.2.2.2.1 x.2.2.2.2.1 x.2.2.2.2.2.1 x.2.2.2.2.2.2) (fun x=>(mkS [(0,some (.ptr 0 0)),(6,some (.ptr 5 0)),(7,some (.ptr 6 0))] [(0,(.live 45 [(.int .i64 x.1),(.int .i64 a2)])),(1,(.live 47 [(.fn 120 [] [])])),(2,(.live 28 [(.ptr 0 0)])),(3,(.live 34 [(.bool a3),(slK (kInt .u32) a4),(.int .i64 a5),(.bool a6),(slK (kInt .u32) a7),(.int .i64 a8)])),(5,(.live 34 [(.bool false),(slK (kInt .u32) []),(.int .i64 0),(.bool false),(slK (kInt .u32) []),(.int .i64 0)])),(6,(.live 34 [(.bool x.2.1),(slK (kInt .u32) x.2.2.1),(.int .i64 x.2.2.2.1),(.bool x.2.2.2.2.1),(slK (kInt .u32) x.2.2.2.2.2.1),(.int .i64 x.2.2.2.2.2.2)]))])) ?_ ?_
 ·rintro ⟨y135,y136,y137,y138,y139,y140,y141⟩
  dsimp only [small_series_78b1_j1]
  refine .seq<|.seq<|.draw mixed<|.p (mv rfl)<|.p (la ag34 rfl)<|.p (mv rfl)<|.bind fun x142 h21=>.p (cl (cv_Prec_k h21) [0] [] [false] rfl (.p rfl<|.nil) (.p rfl (.i<|.i<|.nil) .nil) fnil (.cons (.v (.i<|.i<|.nil)) .nil) (.int _ _) (.kept rfl .nil) rfl)<|.p (un rfl)<|.bind fun x143 h22=>.p (c0 (dyad_Half_p h22) rfl)<|.bind fun x144 h23=>.w (cl (cv_Wide_k h23) [0] [] [true] rfl (.p rfl<|.a kI<|.a kD<|.nil) (.p rfl (.i<|.i<|.nil) .nil) fnil (.cons (.v (.i<|.i<|.nil)) .nil) (ren_agg (K:=kI) _) (.turned .nil) rfl)<|.n (sa ag34 rfl)<|?_
  refine .nil (by kernel_rfl)<|.seq<|.ret<|fin_1 (.inr rfl) (.k rfl (.k rfl (.k rfl (.k rfl (.nil _))))) results154 (.a ag34 rfl) (AVle.refl _)
 ·intro h24
  refine .block<|.loopW (X:=Int × Int × Bool × (List Int) × Int × Bool × (List Int) × Int × Bool × (List Int) × Int × Bool × (List Int) × Int) (fun n x=>small_series_78b1_l2 x94 a2 a3 a4 a5 a6 a7 a8 n x.1 x.2.1 x.2.2.1 x.2.2.2.1 x.2.2.2.2.1 x.2.2.2.2.2.1 x.2.2.2.2.2.2.1 x.2.2.2.2.2.2.2.1 x.2.2.2.2.2.2.2.2.1 x.2.2.2.2.2.2.2.2.2.1 x.2.2.2.2.2.2.2.2.2.2.1 x.2.2.2.2.2.2.2.2.2.2.2.1 x.2.2.2.2.2.2.2.2.2.2.2.2.1 x.2.2.2.2.2.2.2.2.2.2.2.2.2) (fun x=>(mkS [(0,some (.ptr 0 0)),(2,some (.fn 175 [] [(.ptr 1 0),(.ptr 2 0),(.ptr 3 0)])),(6,some (.ptr 5 0)),(7,some (.ptr 6 0)),(8,some (.ptr 7 0)),(15,some (.int .i64 x94)),(16,some (.int .i64 x.1))] [(0,(.live 45 [(.int .i64 x.2.1),(.int .i64 a2)])),(1,(.live 47 [(.fn 120 [] [])])),(2,(.live 28 [(.ptr 0 0)])),(3,(.live 34 [(.bool a3),(slK (kInt .u32) a4),(.int .i64 a5),(.bool a6),(slK (kInt .u32) a7),(.int .i64 a8)])),(5,(.live 34 [(.bool false),(slK (kInt .u32) []),(.int .i64 0),(.bool false),(slK (kInt .u32) []),(.int .i64 0)])),(6,(.live 34 [(.bool x.2.2.1),(slK (kInt .u32) x.2.2.2.1),(.int .i64 x.2.2.2.2.1),(.bool x.2.2.2.2.2.1),(slK (kInt .u32) x.2.2.2.2.2.2.1),(.int .i64 x.2.2.2.2.2.2.2.1)])),(7,(.live 34 [(.bool x.2.2.2.2.2.2.2.2.1),(slK (kInt .u32) x.2.2.2.2.2.2.2.2.2.1),(.int .i64 x.2.2.2.2.2.2.2.2.2.2.1),(.bool x.2.2.2.2.2.2.2.2.2.2.2.1),(slK (kInt .u32) x.2.2.2.2.2.2.2.2.2.2.2.2.1),(.int .i64 x.2.2.2.2.2.2.2.2.2.2.2.2.2)]))])) (0,a1,a0.Lo.M.Neg,a0.Lo.M.Mag,a0.Lo.E,a0.Hi.M.Neg,a0.Hi.M.Mag,a0.Hi.E,a0.Lo.M.Neg,a0.Lo.M.Mag,a0.Lo.E,a0.Hi.M.Neg,a0.Hi.M.Mag,a0.Hi.E) (jn (m:=4) [(0,0),(1,1),(2,2),(3,3),(5,5),(6,6),(7,7)] hE (.p rfl rfl<|.g rfl (ren_fnL _ .nil (.p rfl<|.p rfl<|.p rfl<|.nil))<|.p rfl rfl<|.p rfl rfl<|.p rfl rfl<|.i rfl<|.i rfl<|.nil) (.v rfl (.i<|.i<|.nil)<|.v rfl (.cons (ren_fnL _ .nil .nil)<|.nil)<|.v rfl (.p rfl<|.nil)<|.v rfl (.b<|.l<|.i<|.b<|.l<|.i<|.nil)<|.v rfl (.b<|.l<|.i<|.b<|.l<|.i<|.nil)<|.v rfl (.b<|.l<|.i<|.b<|.l<|.i<|.nil)<|.v rfl (.b<|.l<|.i<|.b<|.l<|.i<|.nil)<|.nil) rfl) (fun _=>rfl) rfl<|?_
  rintro n2 ⟨y167,y168,y169,y170,y171,y172,y173,y174,y175,y176,y177,y178,y179,y180⟩
  try dsimp only
  rw [small_series_78b1_l2]
  refine .seq<|.region<|.p (ar rfl)<|.nil<|.seq<|.seq<|?_
  refine T.cond_p rfl iff_dec (fun h37 h38=>?_) (fun h37 h38=>?_)
  ·refine .skip<|.seq<|.seq<|.block<|.seq<|.region<|.p (mv rfl)<|.p (sg rfl)<|.nil<|.seq<|.seq<|.region<|.w (al 8 ze34 rfl)<|.nil<|?_
   refine .seq<|.seq<|.region<|.p (mv rfl)<|.p (mv rfl)<|.p (ar rfl)<|.p (la ag34 rfl)<|.bind fun x183 h41=>.w (cl (small_odd_1_da03_k h41) [1,2,0,3] [] [false,false,true,false] rfl (.i<|.a kI<|.p rfl<|.p rfl<|.p rfl<|.nil) (.p rfl (.cons (ren_fnL _ .nil .nil)<|.nil) (.p rfl (.p rfl<|.nil) (.p rfl (.i<|.i<|.nil) (.p rfl (.b<|.l<|.i<|.b<|.l<|.i<|.nil) .nil)))) fnil (.cons (.v (.cons (ren_fnL _ .nil .nil)<|.nil)) (.cons (.v (.p rfl<|.nil)) (.cons (.v (.i<|.i<|.nil)) (.cons (.v (.b<|.l<|.i<|.b<|.l<|.i<|.nil)) .nil)))) (ren_tupL (.a kI<|.a kI<|.nil)) (.kept rfl (.kept rfl (.turned (.kept rfl .nil)))) rfl)<|.p (mv rfl)<|.p (xt rfl)<|.p (xt rfl)<|.n (sa ag34 rfl)<|.n (sa ag34 rfl)<|?_
   refine .nil<|.seq<|.region<|.p (mv rfl)<|.p (la ag34 rfl)<|.p (la ag34 rfl)<|.bind fun x184 h42=>.w (cl (cv_Add_k h42) [0] [] [true] rfl (.p rfl<|.a kI<|.a kI<|.nil) (.p rfl (.i<|.i<|.nil) .nil) fnil (.cons (.v (.i<|.i<|.nil)) .nil) (ren_agg (K:=kI) _) (.turned .nil) rfl)<|.n (sa ag34 rfl)<|.nil<|.block<|.seq<|.region<|.p (ar rfl)<|?_
   refine .p (mv rfl)<|.nil<|.again ((IntKind.i64.wrap (y167+1)),x184.2,(((x184.1).Lo).M).Neg,(((x184.1).Lo).M).Mag,((x184.1).Lo).E,(((x184.1).Hi).M).Neg,(((x184.1).Hi).M).Mag,((x184.1).Hi).E,(((x183.1).Lo).M).Neg,(((x183.1).Lo).M).Mag,((x183.1).Lo).E,(((x183.1).Hi).M).Neg,(((x183.1).Hi).M).Mag,((x183.1).Hi).E) (jn (m:=4) [(0,0),(1,1),(2,2),(3,3),(5,5),(6,6),(7,7)] hE (.p rfl rfl<|.g rfl (ren_fnL _ .nil (.p rfl<|.p rfl<|.p rfl<|.nil))<|.p rfl rfl<|.p rfl rfl<|.p rfl rfl<|.i rfl<|.i rfl<|.nil) (.v rfl (.i<|.i<|.nil)<|.v rfl (.cons (ren_fnL _ .nil .nil)<|.nil)<|.v rfl (.p rfl<|.nil)<|.v rfl (.b<|.l<|.i<|.b<|.l<|.i<|.nil)<|.v rfl (.b<|.l<|.i<|.b<|.l<|.i<|.nil)<|.v rfl (.b<|.l<|.i<|.b<|.l<|.i<|.nil)<|.v rfl (.b<|.l<|.i<|.b<|.l<|.i<|.nil)<|.nil) rfl) rfl
  ·refine .exit<|.seq_exit<|.loop_exit<|.block_exit<|.weak (h24 (y168,y169,y170,y171,y172,y173,y174)) (jn (m:=4) [(0,0),(1,1),(2,2),(3,3),(5,5),(6,6)] hE (.p rfl rfl<|.p rfl rfl<|.p rfl rfl<|.nil) (.v rfl (.i<|.i<|.nil)<|.v rfl (.cons (ren_fnL _ .nil .nil)<|.nil)<|.v rfl (.p rfl<|.nil)<|.v rfl (.b<|.l<|.i<|.b<|.l<|.i<|.nil)<|.v rfl (.b<|.l<|.i<|.b<|.l<|.i<|.nil)<|.v rfl (.b<|.l<|.i<|.b<|.l<|.i<|.nil)<|.nil) rfl)
theorem small_series_78b1_k {a0:AI} {a1:Int} {a2:Int} {a3:Bool} {a4:List Int} {a5:Int} {a6:Bool} {a7:List Int} {a8:Int} {r:AI × Int} (h:small_series_78b1 a0 a1 a2 a3 a4 a5 a6 a7 a8=some r):Cal Tryz.prog 154 [(.ptr 0 0),(.agg (kI.enc a0)),(.fn 175 [] [(.ptr 1 0),(.ptr 2 0),(.ptr 3 0)])] [(.live 45 [(.int .i64 a1),(.int .i64 a2)]),(.live 47 [(.fn 120 [] [])]),(.live 28 [(.ptr 0 0)]),(.live 34 [(.bool a3),(slK (kInt .u32) a4),(.int .i64 a5),(.bool a6),(slK (kInt .u32) a7),(.int .i64 a8)])] (.agg (kI.enc (⟨⟨(((r.1).Lo).M),((r.1).Lo).E⟩,⟨(((r.1).Hi).M),((r.1).Hi).E⟩⟩:AI))) [(.live 45 [(.int .i64 r.2),(.int .i64 a2)]),(.live 47 [(.fn 120 [] [])]),(.live 28 [(.ptr 0 0)]),(.live 34 [(.bool a3),(slK (kInt .u32) a4),(.int .i64 a5),(.bool a6),(slK (kInt .u32) a7),(.int .i64 a8)])]:=⟨⟨_,func154,nm154,rfl⟩,small_series_78b1_c a0 a1 a2 a3 a4 a5 a6 a7 a8 _ h⟩
theorem small_odd_cdf0_c (a0:AI) (a1:Int) (a2:Int):∀ r,small_odd_cdf0 a0 a1 a2=some r→ACalls Tryz.prog 119 [(.ptr 0 0),(.agg (kI.enc a0)),(.fn 120 [] [])] (lw [(.live 45 [(.int .i64 a1),(.int .i64 a2)])]) (.agg (kI.enc (⟨⟨(((r.1).Lo).M),((r.1).Lo).E⟩,⟨(((r.1).Hi).M),((r.1).Hi).E⟩⟩:AI))) (ld [(.live 45 [(.int .i64 r.2),(.int .i64 a2)])]):=by
 unfold small_odd_cdf0
 refine go 1 func119 ntmps119 rfl ?_
 intro E hE
 refine .seq<|.region<|.w (bx 1 rfl)<|.w (bx 2 rfl)<|.w (bx 3 rfl)<|.w (al 4 ze34 rfl)<|.nil<|.seq<|.seq<|.seq<|.region<|.p (ls sc28 rfl)<|.p (la ag34 rfl)<|.bind fun x4 h1=>?_
 refine .w (cl (small_in_k h1) [0] [] [true] rfl (.p rfl<|.a kI<|.i<|.nil) (.p rfl (.i<|.i<|.nil) .nil) fnil (.cons (.v (.i<|.i<|.nil)) .nil) (.bool _) (.turned .nil) rfl)<|.p (un rfl)<|.nil<|.seq<|?_
 refine T.cond_p rfl iff_nb (fun h2 h3=>?_) (fun h2 h3=>?_)
 ·refine .seq<|.region<|.p (bd ze34 pl34 rfl)<|.n (sa ag34 rfl)<|.nil<|.seq<|.ret<|.seq_ret<|fin_1 (.inr rfl) (.k rfl (.nil _)) results119 (.a ag34 rfl) (AVle.refl _)
 ·refine .skip<|.seq<|.seq<|.region<|.p (ls sc28 rfl)<|.p (la ag34 rfl)<|.p (la ag34 rfl)<|.bind fun x5 h4=>.w (cl (cv_Mul_k h4) [0] [] [true] rfl (.p rfl<|.a kI<|.a kI<|.nil) (.p rfl (.i<|.i<|.nil) .nil) fnil (.cons (.v (.i<|.i<|.nil)) .nil) (ren_agg (K:=kI) _) (.turned .nil) rfl)<|.w (al 5 ze34 rfl)<|.n (sa ag34 rfl)<|.nil<|.seq<|.seq<|?_
  refine .region<|.p (ls sc28 rfl)<|.p (la ag34 rfl)<|?_
  refine TR.st 19 (.fn 175 [] [(.ptr 3 0),(.ptr 1 0),(.ptr 5 0)]) [] (snd_makeFunc _ _ _ [] [(.ptr 3 0),(.ptr 1 0),(.ptr 5 0)] rfl rfl rfl rfl rfl) rfl rfl rfl ?_
  refine .bind fun x6 h5=>.w (cl (small_series_78b1_k h5) [0,3,1,5] [] [true,false,false,false] rfl (.p rfl<|.a kI<|.cons (ren_fnL _ .nil (.p rfl<|.p rfl<|.p rfl<|.nil))<|.nil) (.p rfl (.i<|.i<|.nil) (.p rfl (.cons (ren_fnL _ .nil .nil)<|.nil) (.p rfl (.p rfl<|.nil) (.p rfl (.b<|.l<|.i<|.b<|.l<|.i<|.nil) .nil)))) fnil (.cons (.v (.i<|.i<|.nil)) (.cons (.v (.cons (ren_fnL _ .nil .nil)<|.nil)) (.cons (.v (.p rfl<|.nil)) (.cons (.v (.b<|.l<|.i<|.b<|.l<|.i<|.nil)) .nil)))) (ren_agg (K:=kI) _) (.turned (.kept rfl (.kept rfl (.kept rfl .nil)))) rfl)<|.n (sa ag34 rfl)<|.nil<|.seq<|.ret<|fin_1 (.inr rfl) (.k rfl (.nil _)) results119 (.a ag34 rfl) (AVle.refl _)
theorem small_odd_cdf0_k {a0:AI} {a1:Int} {a2:Int} {r:AI × Int} (h:small_odd_cdf0 a0 a1 a2=some r):Cal Tryz.prog 119 [(.ptr 0 0),(.agg (kI.enc a0)),(.fn 120 [] [])] [(.live 45 [(.int .i64 a1),(.int .i64 a2)])] (.agg (kI.enc (⟨⟨(((r.1).Lo).M),((r.1).Lo).E⟩,⟨(((r.1).Hi).M),((r.1).Hi).E⟩⟩:AI))) [(.live 45 [(.int .i64 r.2),(.int .i64 a2)])]:=⟨⟨_,func119,nm119,rfl⟩,small_odd_cdf0_c a0 a1 a2 _ h⟩
theorem small_Atanh_c (a0:AI) (a1:Int) (a2:Int):∀ r,small_Atanh a0 a1 a2=some r→ACalls Tryz.prog 54 [(.ptr 0 0),(.agg (kI.enc a0))] (lw [(.live 45 [(.int .i64 a1),(.int .i64 a2)])]) (.agg (kI.enc (⟨⟨(((r.1).Lo).M),((r.1).Lo).E⟩,⟨(((r.1).Hi).M),((r.1).Hi).E⟩⟩:AI))) (ld [(.live 45 [(.int .i64 r.2),(.int .i64 a2)])]):=by
 unfold small_Atanh
 refine go 1 func54 ntmps54 rfl ?_
 intro E hE
 refine .seq<|.region<|.w (bx 1 rfl)<|.w (al 2 ze34 rfl)<|.nil<|.seq<|.seq<|.region<|.p (mv rfl)<|.p (la ag34 rfl)<|.bind fun x2 h1=>.w (cl (small_odd_cdf0_k h1) [0] [] [true] rfl (.p rfl<|.a kI<|.cons (ren_fnL _ .nil .nil)<|.nil) (.p rfl (.i<|.i<|.nil) .nil) fnil (.cons (.v (.i<|.i<|.nil)) .nil) (ren_agg (K:=kI) _) (.turned .nil) rfl)<|.n (sa ag34 rfl)<|.nil<|?_
 refine .seq<|.ret<|fin_1 (.inr rfl) (.k rfl (.nil _)) results54 (.a ag34 rfl) (AVle.refl _)
theorem small_Atanh_k {a0:AI} {a1:Int} {a2:Int} {r:AI × Int} (h:small_Atanh a0 a1 a2=some r):Cal Tryz.prog 54 [(.ptr 0 0),(.agg (kI.enc a0))] [(.live 45 [(.int .i64 a1),(.int .i64 a2)])] (.agg (kI.enc (⟨⟨(((r.1).Lo).M),((r.1).Lo).E⟩,⟨(((r.1).Hi).M),((r.1).Hi).E⟩⟩:AI))) [(.live 45 [(.int .i64 r.2),(.int .i64 a2)])]:=⟨⟨_,func54,nm54,rfl⟩,small_Atanh_c a0 a1 a2 _ h⟩
theorem konst_parts_b550_c (a0:Int) (a1:Int) (a2:Int) (a3:Int):∀ r,konst_parts_b550 a0 a1 a2 a3=some r→ACalls Tryz.prog 124 [(.ptr 0 0),(.sl [[(.fn 54 [] []),(.int .i64 a0),(.int .i64 a1)]])] (lw [(.live 45 [(.int .i64 a2),(.int .i64 a3)])]) (slK kI r.1) (ld [(.live 45 [(.int .i64 r.2),(.int .i64 a3)])]):=by
 unfold konst_parts_b550
 refine go 1 func124 ntmps124 rfl ?_
 intro E hE
 refine .seq<|.region<|.p (sg rfl)<|.nil<|.seq<|.seq<|.region<|.p (sg rfl)<|.nil<|.seq<|.seq<|.seq<|.region<|.p (mv rfl)<|?_
 refine TR.st 11 (.int .i64 1) [] (snd_len _ _ _ _ _ rfl underlying154 rfl rfl rfl rfl) rfl rfl rfl ?_
 refine .p (mv rfl)<|.nil<|.seq<|?_
 refine T.cut (X:=Int × (List AI)) (fun x=>konst_parts_b550_j1 a1 a3 x.1 x.2) (fun x=>(mkS [(0,some (.ptr 0 0)),(1,some (.sl [[(.fn 54 [] []),(.int .i64 a0),(.int .i64 a1)]])),(5,some (grA kI 1 x.2))] [(0,(.live 45 [(.int .i64 x.1),(.int .i64 a3)])),(1,(grV kI 34 x.2))])) ?_ ?_
 ·rintro ⟨y119,y120⟩
  dsimp only [konst_parts_b550_j1]
  refine .seq<|.seq<|.seq<|.region<|.p (mv rfl)<|?_
  refine TR.st 33 (.int .i64 1) [] (snd_len _ _ _ _ _ rfl underlying154 rfl rfl rfl rfl) rfl rfl rfl ?_
  refine .p (mv rfl)<|.nil<|.seq<|?_
  refine T.cut (X:=Int × (List AI)) (fun x=>konst_parts_b550_j2 x.1 x.2) (fun x=>(mkS [(5,some (grA kI 1 x.2))] [(0,(.live 45 [(.int .i64 x.1),(.int .i64 a3)])),(1,(grV kI 34 x.2))])) ?_ ?_
  ·rintro ⟨y133,y134⟩
   dsimp only [konst_parts_b550_j2]
   refine .seq<|.seq<|.region<|.p (mv rfl)<|.p (sg rfl)<|.nil<|.seq<|.ret<|?_
   refine TQ.weak ?_ (fun a w h=>Conc.gr_still kI h 4 1 34 y134 rfl rfl)
   exact fin_1 (.inr rfl) (.k rfl (.nil _)) results124 (.t rfl) (AVle.refl _)
  ·intro h71
   refine .block<|.loopW (X:=Int × Int × (List AI)) (fun n x=>konst_parts_b550_l3 a1 a3 n x.1 x.2.1 x.2.2) (fun x=>(mkS [(0,some (.ptr 0 0)),(5,some (grA kI 1 x.2.2)),(32,some (.sl [[(.fn 54 [] []),(.int .i64 a0),(.int .i64 a1)]])),(33,some (.int .i64 1)),(34,some (.int .i64 x.1))] [(0,(.live 45 [(.int .i64 x.2.1),(.int .i64 a3)])),(1,(grV kI 34 x.2.2))])) (0,y119,y120) (jn (m:=1) [(0,0),(1,1)] hE (.p rfl rfl<|.g rfl (ren_gr (K:=kI) (by rfl) y120)<|.g rfl (ren_slL (.cons (.cons (ren_fnL _ .nil .nil)<|.i<|.i<|.nil) .nil))<|.i rfl<|.i rfl<|.nil) (.v rfl (.i<|.i<|.nil)<|.cons (.refl _) (renV_gr (K:=kI) 34 y120)<|.nil) rfl) (fun _=>rfl) rfl<|?_
   rintro n3 ⟨y142,y143,y144⟩
   try dsimp only
   rw [konst_parts_b550_l3]
   refine .seq<|.region<|.p (ar rfl)<|.nil<|.seq<|.seq<|?_
   refine T.cond_p rfl iff_dec (fun h92 h93=>?_) (fun h92 h93=>?_)
   ·refine .skip<|.seq<|.seq<|.block<|.seq<|.region<|.p (mv rfl)<|?_
    refine TR.ite (fun h99=>?_) (fun h99=>?_)
    ·refine TR.st 37 (.iptr [(.fn 54 [] []),(.int .i64 a0),(.int .i64 a1)]) [] (snd_index_at 0 _ _ _ _ _ _ _ _ rfl underlying154 si126 rfl rfl rfl rfl (by intro e he; simp at he; rcases he with rfl<;>rfl) rfl h99 rfl) rfl rfl rfl ?_
     refine .p (lai ag126 rfl)<|.w (al 2 ze126 rfl)<|.p (sg rfl)<|.n (sa ag126 rfl)<|.nil<|.seq<|.guard fun h100=>?_
     refine T.weak ?_ (fun a w h=>Conc.gr_open1 kI h 5 1 y144 (by omega) rfl)
     refine T.weak ?_ (fun a w h=>Conc.gr_openV kI h 1 34 y144 (by omega) rfl)
     refine .draw mixed<|.p (mv rfl)<|.p (mv rfl)<|.p (mv rfl)<|.p (mv rfl)<|.p (mv rfl)<|.guard fun h101=>?_
     obtain ⟨h1011,h1012⟩:=h101
     refine TD.st 44 (.rptr 1 kI.sz y142.toNat 0) [] (idx_r (snd_index_r _ _ _ _ _ 1 0 ((y144).length) _ y142 rfl underlying104 si34 rfl rfl rfl rfl h1011 (by omega)) (Nat.zero_add _)) rfl rfl rfl ?_
     refine TD.st 45 (.agg (kI.enc (⟨⟨((((y144).getD y142.toNat zAI).Lo).M),(((y144).getD y142.toNat zAI).Lo).E⟩,⟨((((y144).getD y142.toNat zAI).Hi).M),(((y144).getD y142.toNat zAI).Hi).E⟩⟩:AI))) [] (snd_loadK_agg kI _ _ 1 y142.toNat 0 6 _ _ rfl ag34 rfl rfl rfl rfl (by first | omega | (simp only [List.length_set]; omega)) (by decide)) rfl rfl rfl ?_
     refine .p (fa 2 fl126_2 rfl)<|.p (ls sc3 rfl)<|.bind fun x146 h102=>.w (cl (cv_Scale_k h102) [0] [] [true] rfl (.p rfl<|.a kI<|.i<|.nil) (.p rfl (.i<|.i<|.nil) .nil) fnil (.cons (.v (.i<|.i<|.nil)) .nil) (ren_agg (K:=kI) _) (.turned .nil) rfl)<|.guard fun h103=>?_
     obtain ⟨h1031,h1032⟩:=h103
     refine TD.st 49 (.rptr 1 kI.sz y142.toNat 0) [] (idx_r (snd_index_r _ _ _ _ _ 1 0 ((y144).length) _ y142 rfl underlying104 si34 rfl rfl rfl rfl h1031 (by omega)) (Nat.zero_add _)) rfl rfl rfl ?_
     refine TD.sn [(1,(rwK kI 34 ((y144).set y142.toNat (⟨⟨(((x146.1).Lo).M),((x146.1).Lo).E⟩,⟨(((x146.1).Hi).M),((x146.1).Hi).E⟩⟩:AI))))] (snd_storeK_agg kI _ _ _ 1 y142.toNat _ _ (⟨⟨(((x146.1).Lo).M),((x146.1).Lo).E⟩,⟨(((x146.1).Hi).M),((x146.1).Hi).E⟩⟩:AI) rfl rfl ag34 rfl rfl rfl rfl (by first | omega | (simp only [List.length_set]; omega))) rfl rfl ?_
     refine .nil (by kernel_rfl)<|?_
     refine TQ.weak ?_ (fun a w h=>Conc.relen h 5 ((((y144).set y142.toNat (⟨⟨(((x146.1).Lo).M),((x146.1).Lo).E⟩,⟨(((x146.1).Hi).M),((x146.1).Hi).E⟩⟩:AI))).length) rfl List.length_set.symm)
     refine .block<|.seq<|.region<|.p (ar rfl)<|.p (mv rfl)<|.nil<|.guard fun h104=>?_
     refine TQ.weak ?_ (fun a w h=>Conc.gr_row kI h 5 1 34 ((y144).set y142.toNat (⟨⟨(((x146.1).Lo).M),((x146.1).Lo).E⟩,⟨(((x146.1).Hi).M),((x146.1).Hi).E⟩⟩:AI)) rfl rfl (by first | omega | (simp only [List.length_append,List.length_cons,List.length_set]; omega) | simp))
     exact TQ.again ((IntKind.i64.wrap (y142+1)),x146.2,((y144).set y142.toNat (⟨⟨(((x146.1).Lo).M),((x146.1).Lo).E⟩,⟨(((x146.1).Hi).M),((x146.1).Hi).E⟩⟩:AI))) (jn (m:=1) [(0,0),(1,1)] hE (.p rfl rfl<|.g rfl (ren_gr (K:=kI) (by rfl) ((y144).set y142.toNat (⟨⟨(((x146.1).Lo).M),((x146.1).Lo).E⟩,⟨(((x146.1).Hi).M),((x146.1).Hi).E⟩⟩:AI)))<|.g rfl (ren_slL (.cons (.cons (ren_fnL _ .nil .nil)<|.i<|.i<|.nil) .nil))<|.i rfl<|.i rfl<|.nil) (.v rfl (.i<|.i<|.nil)<|.cons (.refl _) (renV_gr (K:=kI) 34 ((y144).set y142.toNat (⟨⟨(((x146.1).Lo).M),((x146.1).Lo).E⟩,⟨(((x146.1).Hi).M),((x146.1).Hi).E⟩⟩:AI)))<|.nil) rfl) rfl
    ·exact TR.no
   ·refine .exit<|.seq_exit<|.loop_exit<|.block_exit<|.weak (h71 (y143,y144)) (jn (m:=1) [(0,0),(1,1)] hE (.g rfl (ren_gr (K:=kI) (by rfl) y144)<|.nil) (.v rfl (.i<|.i<|.nil)<|.cons (.refl _) (renV_gr (K:=kI) 34 y144)<|.nil) rfl)
 ·intro h105
  refine .block<|?_
  refine T.weak ?_ (fun a w h=>Conc.gr_nil kI h 5 1 34 rfl)
  refine .loopW (X:=Int × Int × (List AI)) (fun n x=>konst_parts_b550_l4 a3 a0 a1 n x.1 x.2.1 x.2.2) (fun x=>(mkS [(0,some (.ptr 0 0)),(1,some (.sl [[(.fn 54 [] []),(.int .i64 a0),(.int .i64 a1)]])),(5,some (grA kI 1 x.2.2)),(10,some (.sl [[(.fn 54 [] []),(.int .i64 a0),(.int .i64 a1)]])),(11,some (.int .i64 1)),(12,some (.int .i64 x.1))] [(0,(.live 45 [(.int .i64 x.2.1),(.int .i64 a3)])),(1,(grV kI 34 x.2.2))])) (0,a2,[]) (jn (m:=1) [(0,0),(1,1)] hE (.p rfl rfl<|.g rfl (ren_slL (.cons (.cons (ren_fnL _ .nil .nil)<|.i<|.i<|.nil) .nil))<|.g rfl (ren_gr (K:=kI) (by rfl) [])<|.g rfl (ren_slL (.cons (.cons (ren_fnL _ .nil .nil)<|.i<|.i<|.nil) .nil))<|.i rfl<|.i rfl<|.nil) (.v rfl (.i<|.i<|.nil)<|.cons (.refl _) (renV_gr (K:=kI) 34 [])<|.nil) rfl) (fun _=>rfl) rfl<|?_
  rintro n4 ⟨y166,y167,y168⟩
  try dsimp only
  rw [konst_parts_b550_l4]
  refine .seq<|.region<|.p (ar rfl)<|.nil<|.seq<|.seq<|?_
  refine T.cond_p rfl iff_dec (fun h130 h131=>?_) (fun h130 h131=>?_)
  ·refine .skip<|.seq<|.seq<|.block<|.seq<|.region<|?_
   refine TR.ite (fun h138=>?_) (fun h138=>?_)
   ·refine TR.st 14 (.iptr [(.fn 54 [] []),(.int .i64 a0),(.int .i64 a1)]) [] (snd_index_at 0 _ _ _ _ _ _ _ _ rfl underlying154 si126 rfl rfl rfl rfl (by intro e he; simp at he; rcases he with rfl<;>rfl) rfl h138 rfl) rfl rfl rfl ?_
    refine .p (lai ag126 rfl)<|.w (al 2 ze126 rfl)<|.n (sa ag126 rfl)<|.nil<|.seq<|.draw mixed<|.p (mv rfl)<|.p (fa 0 fl126_0 rfl)<|.p (ls sc58 rfl)<|.p (mv rfl)<|.p (mv rfl)<|.p (mv rfl)<|.bind fun x173 h139=>.w (cl (cv_Int_k h139) [0] [] [true] rfl (.p rfl<|.i<|.nil) (.p rfl (.i<|.i<|.nil) .nil) fnil (.cons (.v (.i<|.i<|.nil)) .nil) (ren_agg (K:=kI) _) (.turned .nil) rfl)<|?_
    refine .p (mv rfl)<|.p (fa 1 fl126_1 rfl)<|.p (ls sc3 rfl)<|.bind fun x174 h140=>.w (cl (cv_Int_k h140) [0] [] [true] rfl (.p rfl<|.i<|.nil) (.p rfl (.i<|.i<|.nil) .nil) fnil (.cons (.v (.i<|.i<|.nil)) .nil) (ren_agg (K:=kI) _) (.turned .nil) rfl)<|.bind fun x175 h141=>.w (cl (cv_Div_k h141) [0] [] [true] rfl (.p rfl<|.a kI<|.a kI<|.nil) (.p rfl (.i<|.i<|.nil) .nil) fnil (.cons (.v (.i<|.i<|.nil)) .nil) (ren_agg (K:=kI) _) (.turned .nil) rfl)<|.bind fun x176 h142=>.w (cl (small_Atanh_k h142) [0] [] [true] rfl (.p rfl<|.a kI<|.nil) (.p rfl (.i<|.i<|.nil) .nil) fnil (.cons (.v (.i<|.i<|.nil)) .nil) (ren_agg (K:=kI) _) (.turned .nil) rfl)<|?_
    refine TD.st 29 (slK kI [(⟨⟨(((x176.1).Lo).M),((x176.1).Lo).E⟩,⟨(((x176.1).Hi).M),((x176.1).Hi).E⟩⟩:AI)]) [] (snd_buildSlice _ _ _ 6 _ _ [(0,(.agg (kI.enc (⟨⟨(((x176.1).Lo).M),((x176.1).Lo).E⟩,⟨(((x176.1).Hi).M),((x176.1).Hi).E⟩⟩:AI))))] (List.map kI.enc [(⟨⟨(((x176.1).Lo).M),((x176.1).Lo).E⟩,⟨(((x176.1).Hi).M),((x176.1).Hi).E⟩⟩:AI)]) rfl underlying104 ze34 si34 rfl rfl rfl (by decide) (by decide) (by decide) rfl rfl (Kd.even _) rfl) rfl rfl rfl ?_
    refine .guard fun h143=>?_
    refine TD.st 30 (.row 3 kI.sz 0 (((y168++[(⟨⟨(((x176.1).Lo).M),((x176.1).Lo).E⟩,⟨(((x176.1).Hi).M),((x176.1).Hi).E⟩⟩:AI)])).length)) [(3,(rwK kI 34 (y168++[(⟨⟨(((x176.1).Lo).M),((x176.1).Lo).E⟩,⟨(((x176.1).Hi).M),((x176.1).Hi).E⟩⟩:AI)]))),(1,.dead)] (snd_appendK_gr kI _ _ _ _ _ 1 3 y168 [(⟨⟨(((x176.1).Lo).M),((x176.1).Lo).E⟩,⟨(((x176.1).Hi).M),((x176.1).Hi).E⟩⟩:AI)] rfl underlying104 ze34 sb34 rfl rfl rfl rfl rfl rfl rfl h143) rfl rfl rfl ?_
    refine .p (sg rfl)<|.nil (by kernel_rfl)<|.block<|.seq<|.region<|.p (ar rfl)<|.p (mv rfl)<|.nil<|?_
    refine TQ.weak ?_ (fun a w h=>Conc.gr_row kI h 5 3 34 (y168++[(⟨⟨(((x176.1).Lo).M),((x176.1).Lo).E⟩,⟨(((x176.1).Hi).M),((x176.1).Hi).E⟩⟩:AI)]) rfl rfl (by first | omega | (simp only [List.length_append,List.length_cons,List.length_set]; omega) | simp))
    exact TQ.again ((IntKind.i64.wrap (y166+1)),x176.2,(y168++[(⟨⟨(((x176.1).Lo).M),((x176.1).Lo).E⟩,⟨(((x176.1).Hi).M),((x176.1).Hi).E⟩⟩:AI)])) (jn (m:=1) [(0,0),(3,1)] hE (.p rfl rfl<|.g rfl (ren_slL (.cons (.cons (ren_fnL _ .nil .nil)<|.i<|.i<|.nil) .nil))<|.g rfl (ren_gr (K:=kI) (by rfl) (y168++[(⟨⟨(((x176.1).Lo).M),((x176.1).Lo).E⟩,⟨(((x176.1).Hi).M),((x176.1).Hi).E⟩⟩:AI)]))<|.g rfl (ren_slL (.cons (.cons (ren_fnL _ .nil .nil)<|.i<|.i<|.nil) .nil))<|.i rfl<|.i rfl<|.nil) (.v rfl (.i<|.i<|.nil)<|.cons (.refl _) (renV_gr (K:=kI) 34 (y168++[(⟨⟨(((x176.1).Lo).M),((x176.1).Lo).E⟩,⟨(((x176.1).Hi).M),((x176.1).Hi).E⟩⟩:AI)]))<|.nil) rfl) rfl
   ·exact TR.no
  ·refine .exit<|.seq_exit<|.loop_exit<|.block_exit<|.weak (h105 (y167,y168)) (jn (m:=1) [(0,0),(1,1)] hE (.p rfl rfl<|.g rfl (ren_slL (.cons (.cons (ren_fnL _ .nil .nil)<|.i<|.i<|.nil) .nil))<|.g rfl (ren_gr (K:=kI) (by rfl) y168)<|.nil) (.v rfl (.i<|.i<|.nil)<|.cons (.refl _) (renV_gr (K:=kI) 34 y168)<|.nil) rfl)
theorem konst_parts_b550_k {a0:Int} {a1:Int} {a2:Int} {a3:Int} {r:(List AI) × Int} (h:konst_parts_b550 a0 a1 a2 a3=some r):Cal Tryz.prog 124 [(.ptr 0 0),(.sl [[(.fn 54 [] []),(.int .i64 a0),(.int .i64 a1)]])] [(.live 45 [(.int .i64 a2),(.int .i64 a3)])] (slK kI r.1) [(.live 45 [(.int .i64 r.2),(.int .i64 a3)])]:=⟨⟨_,func124,nm124,rfl⟩,konst_parts_b550_c a0 a1 a2 a3 _ h⟩
theorem konst_Ln2_c (a0:Int) (a1:Int):∀ r,konst_Ln2 a0 a1=some r→ACalls Tryz.prog 63 [(.ptr 0 0)] (lw [(.live 45 [(.int .i64 a0),(.int .i64 a1)])]) (.agg (kI.enc (⟨⟨(((r.1).Lo).M),((r.1).Lo).E⟩,⟨(((r.1).Hi).M),((r.1).Hi).E⟩⟩:AI))) (ld [(.live 45 [(.int .i64 r.2),(.int .i64 a1)])]):=by
 unfold konst_Ln2
 refine go 1 func63 ntmps63 rfl ?_
 intro E hE
 refine .seq<|.region<|.w (al 1 ze34 rfl)<|.nil<|.seq<|.seq<|.region<|.p (mv rfl)<|.p (bd ze126 pl126 rfl)<|?_
 refine TR.st 5 (.sl [[(.fn 54 [] []),(.int .i64 3),(.int .i64 1)]]) [] (snd_buildSlice _ _ _ 3 _ _ [(0,(.agg [(.fn 54 [] []),(.int .i64 3),(.int .i64 1)]))] [[(.fn 54 [] []),(.int .i64 3),(.int .i64 1)]] rfl underlying154 ze126 si126 rfl rfl rfl (by decide) (by decide) (by decide) rfl rfl (by intro e he; simp at he; rcases he with rfl<;>rfl) rfl) rfl rfl rfl ?_
 refine .bind fun x2 h1=>.w (cl (konst_parts_b550_k h1) [0] [] [true] rfl (.p rfl<|.cons (ren_slL (.cons (.cons (ren_fnL _ .nil .nil)<|.i<|.i<|.nil) .nil))<|.nil) (.p rfl (.i<|.i<|.nil) .nil) fnil (.cons (.v (.i<|.i<|.nil)) .nil) (ren_sl _) (.turned .nil) rfl)<|.guard fun h2=>?_
 refine TR.st 7 (.iptr [(.bool ((((x2.1.getD 0 zAI).Lo).M).Neg)),(slK (kInt .u32) ((((x2.1.getD 0 zAI).Lo).M).Mag)),(.int .i64 (((x2.1.getD 0 zAI).Lo).E)),(.bool ((((x2.1.getD 0 zAI).Hi).M).Neg)),(slK (kInt .u32) ((((x2.1.getD 0 zAI).Hi).M).Mag)),(.int .i64 (((x2.1.getD 0 zAI).Hi).E))]) [] (snd_indexK kI _ _ _ _ _ _ 0 rfl underlying104 si34 rfl rfl rfl rfl h2) rfl rfl rfl ?_
 refine .p (lai ag34 rfl)<|.n (sa ag34 rfl)<|.nil<|.seq<|.ret<|fin_1 (.inr rfl) (.k rfl (.nil _)) results63 (.a ag34 rfl) (AVle.refl _)
theorem konst_Ln2_k {a0:Int} {a1:Int} {r:AI × Int} (h:konst_Ln2 a0 a1=some r):Cal Tryz.prog 63 [(.ptr 0 0)] [(.live 45 [(.int .i64 a0),(.int .i64 a1)])] (.agg (kI.enc (⟨⟨(((r.1).Lo).M),((r.1).Lo).E⟩,⟨(((r.1).Hi).M),((r.1).Hi).E⟩⟩:AI))) [(.live 45 [(.int .i64 r.2),(.int .i64 a1)])]:=⟨⟨_,func63,nm63,rfl⟩,konst_Ln2_c a0 a1 _ h⟩
theorem r07_Atanh_c (a0:AI) (a1:Int) (a2:Int):∀ r,r07_Atanh a0 a1 a2=some r→ACalls Tryz.prog 55 [(.ptr 0 0),(.agg (kI.enc a0))] (lw [(.live 65 [(.int .i64 a1),(.int .i64 a2)])]) (.agg (kI.enc (⟨⟨(((r.1).Lo).M),((r.1).Lo).E⟩,⟨(((r.1).Hi).M),((r.1).Hi).E⟩⟩:AI))) (ld [(.live 65 [(.int .i64 a1),(.int .i64 r.2)])]):=by
 unfold r07_Atanh
 refine go 1 func55 ntmps55 rfl ?_
 intro E hE
 refine .seq<|.region<|.w (bx 1 rfl)<|.w (al 2 ze34 rfl)<|.nil<|.seq<|.seq<|.seq<|.region<|.p (mv rfl)<|.p (la ag34 rfl)<|.bind fun x121 h1=>.w (cl (r07_fits_k h1) [0] [] [true] rfl (.p rfl<|.a kI<|.i<|.nil) (.p rfl (.i<|.i<|.nil) .nil) fnil (.cons (.v (.i<|.i<|.nil)) .nil) (.bool _) (.turned .nil) rfl)<|.p (un rfl)<|?_
 refine .nil<|.seq<|?_
 refine T.cond_p rfl iff_nb (fun h2 h3=>?_) (fun h2 h3=>?_)
 ·refine .seq<|.region<|.p (bd ze34 pl34 rfl)<|.n (sa ag34 rfl)<|.nil<|.seq<|.ret<|.seq_ret<|fin_1 (.inr rfl) (.k rfl (.nil _)) results55 (.a ag34 rfl) (AVle.refl _)
 ·refine .skip<|.seq<|.seq<|.region<|.p (mv rfl)<|.p (la ag34 rfl)<|.p (la ag34 rfl)<|.bind fun x122 h4=>.w (cl (r06_CMul_k h4) [0] [] [true] rfl (.p rfl<|.a kI<|.a kI<|.nil) (.p rfl (.i<|.i<|.nil) .nil) fnil (.cons (.v (.i<|.i<|.nil)) .nil) (ren_agg (K:=kI) _) (.turned .nil) rfl)<|.w (al 3 ze34 rfl)<|.n (sa ag34 rfl)<|.nil<|.seq<|.seq<|?_
  refine .region<|.p (la ag34 rfl)<|.w (al 4 ze34 rfl)<|.n (sa ag34 rfl)<|.nil<|.seq<|.seq<|.region<|.p (la ag34 rfl)<|.w (al 5 ze34 rfl)<|.n (sa ag34 rfl)<|.nil<|.seq<|.seq<|?_
  refine .seq<|.region<|.p (sg rfl)<|.nil<|.seq<|?_
  refine T.cut (X:=Int × Bool × (List Int) × Int × Bool × (List Int) × Int) (fun x=>r07_Atanh_j1 a1 x.1 x.2.1 x.2.2.1 x.2.2.2.1 x.2.2.2.2.1 x.2.2.2.2.2.1 x.2.2.2.2.2.2) (fun x=>(mkS [(0,some (.ptr 0 0)),(4,some (.ptr 2 0)),(6,some (.ptr 4 0))] [(0,(.live 65 [(.int .i64 a1),(.int .i64 x.1)])),(2,(.live 34 [(.bool false),(slK (kInt .u32) []),(.int .i64 0),(.bool false),(slK (kInt .u32) []),(.int .i64 0)])),(4,(.live 34 [(.bool x.2.1),(slK (kInt .u32) x.2.2.1),(.int .i64 x.2.2.2.1),(.bool x.2.2.2.2.1),(slK (kInt .u32) x.2.2.2.2.2.1),(.int .i64 x.2.2.2.2.2.2)]))])) ?_ ?_
  ·rintro ⟨y178,y179,y180,y181,y182,y183,y184⟩
   dsimp only [r07_Atanh_j1]
   refine .seq<|.seq<|.region<|.p (mv rfl)<|.p (la ag34 rfl)<|.bind fun x185 h38=>.w (cl (r07_ends_k h38) [0] [] [true] rfl (.p rfl<|.a kI<|.nil) (.p rfl (.i<|.i<|.nil) .nil) fnil (.cons (.v (.i<|.i<|.nil)) .nil) (ren_agg (K:=kI) _) (.turned .nil) rfl)<|.n (sa ag34 rfl)<|.nil<|.seq<|.ret<|fin_1 (.inr rfl) (.k rfl (.nil _)) results55 (.a ag34 rfl) (AVle.refl _)
  ·intro h39
   refine .block<|.loopW (X:=Int × Int × Bool × (List Int) × Int × Bool × (List Int) × Int × Bool × (List Int) × Int × Bool × (List Int) × Int) (fun n x=>r07_Atanh_l2 a1 x122 n x.1 x.2.1 x.2.2.1 x.2.2.2.1 x.2.2.2.2.1 x.2.2.2.2.2.1 x.2.2.2.2.2.2.1 x.2.2.2.2.2.2.2.1 x.2.2.2.2.2.2.2.2.1 x.2.2.2.2.2.2.2.2.2.1 x.2.2.2.2.2.2.2.2.2.2.1 x.2.2.2.2.2.2.2.2.2.2.2.1 x.2.2.2.2.2.2.2.2.2.2.2.2.1 x.2.2.2.2.2.2.2.2.2.2.2.2.2) (fun x=>(mkS [(0,some (.ptr 0 0)),(4,some (.ptr 2 0)),(5,some (.ptr 3 0)),(6,some (.ptr 4 0)),(7,some (.ptr 5 0)),(8,some (.int .i64 x.1))] [(0,(.live 65 [(.int .i64 a1),(.int .i64 x.2.1)])),(2,(.live 34 [(.bool false),(slK (kInt .u32) []),(.int .i64 0),(.bool false),(slK (kInt .u32) []),(.int .i64 0)])),(3,(.live 34 [(.bool ((((x122.1).Lo).M).Neg)),(slK (kInt .u32) ((((x122.1).Lo).M).Mag)),(.int .i64 (((x122.1).Lo).E)),(.bool ((((x122.1).Hi).M).Neg)),(slK (kInt .u32) ((((x122.1).Hi).M).Mag)),(.int .i64 (((x122.1).Hi).E))])),(4,(.live 34 [(.bool x.2.2.1),(slK (kInt .u32) x.2.2.2.1),(.int .i64 x.2.2.2.2.1),(.bool x.2.2.2.2.2.1),(slK (kInt .u32) x.2.2.2.2.2.2.1),(.int .i64 x.2.2.2.2.2.2.2.1)])),(5,(.live 34 [(.bool x.2.2.2.2.2.2.2.2.1),(slK (kInt .u32) x.2.2.2.2.2.2.2.2.2.1),(.int .i64 x.2.2.2.2.2.2.2.2.2.2.1),(.bool x.2.2.2.2.2.2.2.2.2.2.2.1),(slK (kInt .u32) x.2.2.2.2.2.2.2.2.2.2.2.2.1),(.int .i64 x.2.2.2.2.2.2.2.2.2.2.2.2.2)]))])) (1,x122.2,a0.Lo.M.Neg,a0.Lo.M.Mag,a0.Lo.E,a0.Hi.M.Neg,a0.Hi.M.Mag,a0.Hi.E,a0.Lo.M.Neg,a0.Lo.M.Mag,a0.Lo.E,a0.Hi.M.Neg,a0.Hi.M.Mag,a0.Hi.E) (jn (m:=1) [(0,0),(2,2),(3,3),(4,4),(5,5)] hE (.p rfl rfl<|.p rfl rfl<|.p rfl rfl<|.p rfl rfl<|.p rfl rfl<|.i rfl<|.nil) (.v rfl (.i<|.i<|.nil)<|.v rfl (.b<|.l<|.i<|.b<|.l<|.i<|.nil)<|.v rfl (.b<|.l<|.i<|.b<|.l<|.i<|.nil)<|.v rfl (.b<|.l<|.i<|.b<|.l<|.i<|.nil)<|.v rfl (.b<|.l<|.i<|.b<|.l<|.i<|.nil)<|.nil) rfl) (fun _=>rfl) rfl<|?_
   rintro n2 ⟨y218,y219,y220,y221,y222,y223,y224,y225,y226,y227,y228,y229,y230,y231⟩
   try dsimp only
   rw [r07_Atanh_l2]
   refine .seq<|.seq<|.region<|.p (mv rfl)<|.p (mv rfl)<|.p (nc rfl)<|.p (fa 0 fl65_0 rfl)<|.p (ls sc3 rfl)<|.bind fun x232 h62=>.p (c0 (r07_Terms_p h62) rfl)<|.p (ar rfl)<|.nil<|.seq<|?_
   refine T.cond_p rfl iff_dec (fun h63 h64=>?_) (fun h63 h64=>?_)
   ·refine .skip<|.seq<|.seq<|.block<|.seq<|.region<|.p (mv rfl)<|.p (la ag34 rfl)<|.p (la ag34 rfl)<|.bind fun x237 h69=>.w (cl (r06_CMul_k h69) [0] [] [true] rfl (.p rfl<|.a kI<|.a kI<|.nil) (.p rfl (.i<|.i<|.nil) .nil) fnil (.cons (.v (.i<|.i<|.nil)) .nil) (ren_agg (K:=kI) _) (.turned .nil) rfl)<|.n (sa ag34 rfl)<|.nil<|.seq<|?_
    refine .draw mixed<|.p (mv rfl)<|.p (la ag34 rfl)<|.p (mv rfl)<|.p (la ag34 rfl)<|.p (mv rfl)<|.p (mv rfl)<|.p (ar rfl)<|.p (ar rfl)<|.bind fun x238 h70=>.w (cl (r06_CInt_k h70) [0] [] [true] rfl (.p rfl<|.i<|.nil) (.p rfl (.i<|.i<|.nil) .nil) fnil (.cons (.v (.i<|.i<|.nil)) .nil) (ren_agg (K:=kI) _) (.turned .nil) rfl)<|.bind fun x239 h71=>.w (cl (r06_CDiv_k h71) [0] [] [true] rfl (.p rfl<|.a kI<|.a kI<|.nil) (.p rfl (.i<|.i<|.nil) .nil) fnil (.cons (.v (.i<|.i<|.nil)) .nil) (ren_agg (K:=kI) _) (.turned .nil) rfl)<|.bind fun x240 h72=>?_
    refine .w (cl (r06_CAdd_k h72) [0] [] [true] rfl (.p rfl<|.a kI<|.a kI<|.nil) (.p rfl (.i<|.i<|.nil) .nil) fnil (.cons (.v (.i<|.i<|.nil)) .nil) (ren_agg (K:=kI) _) (.turned .nil) rfl)<|.n (sa ag34 rfl)<|.nil (by kernel_rfl)<|.block<|.seq<|.region<|.p (mv rfl)<|.p (ar rfl)<|.p (sg rfl)<|.nil<|.again ((IntKind.i64.wrap (y218+1)),x240.2,(((x240.1).Lo).M).Neg,(((x240.1).Lo).M).Mag,((x240.1).Lo).E,(((x240.1).Hi).M).Neg,(((x240.1).Hi).M).Mag,((x240.1).Hi).E,(((x237.1).Lo).M).Neg,(((x237.1).Lo).M).Mag,((x237.1).Lo).E,(((x237.1).Hi).M).Neg,(((x237.1).Hi).M).Mag,((x237.1).Hi).E) (jn (m:=1) [(0,0),(2,2),(3,3),(4,4),(5,5)] hE (.p rfl rfl<|.p rfl rfl<|.p rfl rfl<|.p rfl rfl<|.p rfl rfl<|.i rfl<|.nil) (.v rfl (.i<|.i<|.nil)<|.v rfl (.b<|.l<|.i<|.b<|.l<|.i<|.nil)<|.v rfl (.b<|.l<|.i<|.b<|.l<|.i<|.nil)<|.v rfl (.b<|.l<|.i<|.b<|.l<|.i<|.nil)<|.v rfl (.b<|.l<|.i<|.b<|.l<|.i<|.nil)<|.nil) rfl) rfl
   ·refine .exit<|.seq_exit<|.loop_exit<|.block_exit<|.weak (h39 (y219,y220,y221,y222,y223,y224,y225)) (jn (m:=1) [(0,0),(2,2),(4,4)] hE (.p rfl rfl<|.p rfl rfl<|.p rfl rfl<|.nil) (.v rfl (.i<|.i<|.nil)<|.v rfl (.b<|.l<|.i<|.b<|.l<|.i<|.nil)<|.v rfl (.b<|.l<|.i<|.b<|.l<|.i<|.nil)<|.nil) rfl)
theorem r07_Atanh_k {a0:AI} {a1:Int} {a2:Int} {r:AI × Int} (h:r07_Atanh a0 a1 a2=some r):Cal Tryz.prog 55 [(.ptr 0 0),(.agg (kI.enc a0))] [(.live 65 [(.int .i64 a1),(.int .i64 a2)])] (.agg (kI.enc (⟨⟨(((r.1).Lo).M),((r.1).Lo).E⟩,⟨(((r.1).Hi).M),((r.1).Hi).E⟩⟩:AI))) [(.live 65 [(.int .i64 a1),(.int .i64 r.2)])]:=⟨⟨_,func55,nm55,rfl⟩,r07_Atanh_c a0 a1 a2 _ h⟩
theorem r08_Ln2_c (a0:Int) (a1:Int):∀ r,r08_Ln2 a0 a1=some r→ACalls Tryz.prog 68 [(.ptr 0 0)] (lw [(.live 65 [(.int .i64 a0),(.int .i64 a1)])]) (.agg (kI.enc (⟨⟨(((r.1).Lo).M),((r.1).Lo).E⟩,⟨(((r.1).Hi).M),((r.1).Hi).E⟩⟩:AI))) (ld [(.live 65 [(.int .i64 a0),(.int .i64 r.2)])]):=by
 unfold r08_Ln2
 refine go 1 func68 ntmps68 rfl ?_
 intro E hE
 refine .seq<|.region<|.w (al 1 ze34 rfl)<|.nil<|.seq<|.seq<|.region<|.p (mv rfl)<|.p (mv rfl)<|.p (mv rfl)<|.p (mv rfl)<|.bind fun x6 h1=>.w (cl (r06_CInt_k h1) [0] [] [true] rfl (.p rfl<|.i<|.nil) (.p rfl (.i<|.i<|.nil) .nil) fnil (.cons (.v (.i<|.i<|.nil)) .nil) (ren_agg (K:=kI) _) (.turned .nil) rfl)<|.p (mv rfl)<|?_
 refine .bind fun x7 h2=>.w (cl (r06_CInt_k h2) [0] [] [true] rfl (.p rfl<|.i<|.nil) (.p rfl (.i<|.i<|.nil) .nil) fnil (.cons (.v (.i<|.i<|.nil)) .nil) (ren_agg (K:=kI) _) (.turned .nil) rfl)<|.bind fun x8 h3=>.w (cl (r06_CDiv_k h3) [0] [] [true] rfl (.p rfl<|.a kI<|.a kI<|.nil) (.p rfl (.i<|.i<|.nil) .nil) fnil (.cons (.v (.i<|.i<|.nil)) .nil) (ren_agg (K:=kI) _) (.turned .nil) rfl)<|.bind fun x9 h4=>.w (cl (r07_Atanh_k h4) [0] [] [true] rfl (.p rfl<|.a kI<|.nil) (.p rfl (.i<|.i<|.nil) .nil) fnil (.cons (.v (.i<|.i<|.nil)) .nil) (ren_agg (K:=kI) _) (.turned .nil) rfl)<|.bind fun x10 h5=>.w (cl (r06_CScale_k h5) [0] [] [true] rfl (.p rfl<|.a kI<|.i<|.nil) (.p rfl (.i<|.i<|.nil) .nil) fnil (.cons (.v (.i<|.i<|.nil)) .nil) (ren_agg (K:=kI) _) (.turned .nil) rfl)<|.n (sa ag34 rfl)<|.nil<|.seq<|.ret<|fin_1 (.inr rfl) (.k rfl (.nil _)) results68 (.a ag34 rfl) (AVle.refl _)
theorem r08_Ln2_k {a0:Int} {a1:Int} {r:AI × Int} (h:r08_Ln2 a0 a1=some r):Cal Tryz.prog 68 [(.ptr 0 0)] [(.live 65 [(.int .i64 a0),(.int .i64 a1)])] (.agg (kI.enc (⟨⟨(((r.1).Lo).M),((r.1).Lo).E⟩,⟨(((r.1).Hi).M),((r.1).Hi).E⟩⟩:AI))) [(.live 65 [(.int .i64 a0),(.int .i64 r.2)])]:=⟨⟨_,func68,nm68,rfl⟩,r08_Ln2_c a0 a1 _ h⟩
theorem quo_Sqrt_c (a0:List Int):∀ r,quo_Sqrt a0=some r→ACalls Tryz.prog 147 [(slK (kInt .u32) a0)] (lw []) (.tup [(slK (kInt .u32) r.1),(slK (kInt .u32) r.2)]) (ld []):=by
 unfold quo_Sqrt
 refine go 0 func147 ntmps147 rfl ?_
 intro E hE
 refine .seq<|.region<|?_
 refine TR.st 2 (slK (kInt .u32) []) [] (Snd.le (snd_assign _ _ rfl rfl rfl rfl) AVle.nil) rfl rfl rfl ?_
 refine TR.st 3 (slK (kInt .u32) []) [] (Snd.le (snd_assign _ _ rfl rfl rfl rfl) AVle.nil) rfl rfl rfl ?_
 refine .nil<|.seq<|.seq<|.region<|.p (mv rfl)<|.bind fun x60 h1=>.p (c0 (nat_Trim_p h1) rfl)<|.p (sg rfl)<|.nil<|.seq<|.seq<|.seq<|.region<|.p (mv rfl)<|?_
 refine .p (ln underlying22 rfl)<|.p (ar rfl)<|.nil<|.seq<|?_
 refine T.cond_p rfl iff_eq (fun h2 h3=>?_) (fun h2 h3=>?_)
 ·refine .seq<|.region<|?_
  refine TR.st 2 (slK (kInt .u32) []) [] (Snd.le (snd_assign _ _ rfl rfl rfl rfl) AVle.nil) rfl rfl rfl ?_
  refine TR.st 3 (slK (kInt .u32) []) [] (Snd.le (snd_assign _ _ rfl rfl rfl rfl) AVle.nil) rfl rfl rfl ?_
  refine .nil<|.seq<|.ret<|.seq_ret<|fin_2 (.inr rfl) (.nil _) results147 (.t rfl) (.t rfl) (AVle.refl _)
 ·refine .skip<|.seq<|.seq<|.region<|.bind fun x61 h4=>.p (c0 (nat_From_p h4) rfl)<|.p (mv rfl)<|.bind fun x62 h5=>.p (c0 (nat_Bits_p h5) rfl)<|.p (ar rfl)<|?_
  refine TR.st 18 (.int .i64 (IntKind.i64.wrap ((IntKind.i64.wrap (x62+1)).tdiv 2))) [] (snd_quo _ _ _ _ _ _ _ rfl rfl rfl rfl rfl (by decide)) rfl rfl rfl ?_
  refine .bind fun x63 h6=>.p (c0 (nat_Shl_p h6) rfl)<|.p (mv rfl)<|.p (xt rfl)<|.p (xt rfl)<|.p (sg rfl)<|.nil<|.seq<|.seq<|?_
  refine T.cut (X:=(List Int)) (fun x=>quo_Sqrt_j1 x60 x) (fun x=>(mkS [(0,some (slK (kInt .u32) x60)),(2,some (slK (kInt .u32) x))] [])) ?_ ?_
  ·rintro y90
   dsimp only [quo_Sqrt_j1]
   refine .seq<|.seq<|.region<|.p (mv rfl)<|.p (mv rfl)<|.p (mv rfl)<|.bind fun x91 h43=>.p (c0 (nat_Mul_p h43) rfl)<|.bind fun x92 h44=>.p (c0 (nat_Sub_p h44) rfl)<|.p (mv rfl)<|.p (xt rfl)<|.p (xt rfl)<|.p (sg rfl)<|?_
   refine .nil<|.seq<|.seq<|.region<|.p (mv rfl)<|.p (mv rfl)<|.p (sg rfl)<|.p (sg rfl)<|.nil<|.seq<|.ret<|fin_2 (.inr rfl) (.nil _) results147 (.t rfl) (.t rfl) (AVle.refl _)
  ·intro h45
   refine .block<|.loopW (X:=(List Int)) (fun n x=>quo_Sqrt_l2 x60 n x) (fun x=>(mkS [(0,some (slK (kInt .u32) x60)),(2,some (slK (kInt .u32) x))] [])) x63.1 (jn (m:=0) [] hE (.l rfl<|.l rfl<|.nil) .nil rfl) (fun _=>rfl) rfl<|?_
   rintro n2 y110
   try dsimp only
   rw [quo_Sqrt_l2]
   refine .block<|.seq<|.region<|.p (mv rfl)<|.p (mv rfl)<|.bind fun x115 h76=>.p (c0 (quo_DivMod_p h76) rfl)<|.p (mv rfl)<|.p (xt rfl)<|.p (xt rfl)<|.p (xt rfl)<|.p (sg rfl)<|.p (sg rfl)<|.p (sg rfl)<|?_
   refine .nil<|.seq<|.seq<|.region<|.p (mv rfl)<|.p (mv rfl)<|.bind fun x116 h77=>.p (c0 (nat_Add_p h77) rfl)<|.bind fun x117 h78=>.p (c0 (nat_Shr_p h78) rfl)<|.p (sg rfl)<|.nil<|.seq<|.seq<|?_
   refine .seq<|.region<|.p (mv rfl)<|.p (mv rfl)<|.bind fun x118 h79=>.p (c0 (nat_Cmp_p h79) rfl)<|.p (ar rfl)<|.nil<|.seq<|?_
   refine T.cond_p rfl iff_dec (fun h80 h81=>?_) (fun h80 h81=>?_)
   ·refine .exit<|.seq_exit<|.block_pass (by decide)<|.loop_exit<|.block_exit<|.weak (h45 y110) (jn (m:=0) [] hE (.l rfl<|.l rfl<|.nil) .nil rfl)
   ·refine .skip<|.seq<|.region<|.p (mv rfl)<|.p (sg rfl)<|.nil<|.block<|.again x117 (jn (m:=0) [] hE (.l rfl<|.l rfl<|.nil) .nil rfl) rfl
theorem quo_Sqrt_p {a0:List Int} {r:(List Int) × (List Int)} (h:quo_Sqrt a0=some r):Pur Tryz.prog 147 [(slK (kInt .u32) a0)] (.tup [(slK (kInt .u32) r.1),(slK (kInt .u32) r.2)]):=⟨⟨_,func147,nm147,rfl⟩,quo_Sqrt_c a0 _ h,fun _=>(.l<|.nil),fun _=>(ren_tupL (.l<|.l<|.nil))⟩
theorem dyad_Sqrt_c (a0:AD) (a1:Int) (a2:Bool):∀ r,dyad_Sqrt a0 a1 a2=some r→ACalls Tryz.prog 92 [(.agg (kD.enc a0)),(.int .i64 a1),(.bool a2)] (lw []) (.tup [(.agg (kD.enc (⟨((r.1).M),(r.1).E⟩:AD))),(.int .i64 r.2)]) (ld []):=by
 unfold dyad_Sqrt
 refine go 0 func92 ntmps92 rfl ?_
 intro E hE
 refine .seq<|.region<|.w (bx 0 rfl)<|.w (al 1 ze26 rfl)<|.p (sg rfl)<|.nil<|.seq<|.seq<|.region<|.p (bd ze85 pl85 rfl)<|.w (bx 2 rfl)<|.p (sg rfl)<|.nil<|.seq<|?_
 refine .seq<|.seq<|?_
 refine T.cut (X:=Bool × Int) (fun x=>dyad_Sqrt_j1 a0 a1 a2 x.1 x.2) (fun x=>(mkS [(1,some (.int .i64 a1)),(2,some (.bool a2)),(3,some (.ptr 0 0)),(6,some (.ptr 1 0)),(8,some (.ptr 2 0)),(37,some (.bool x.1))] [(0,(.live 26 [(.bool a0.M.Neg),(slK (kInt .u32) a0.M.Mag),(.int .i64 a0.E)])),(1,(.live 26 [(.bool false),(slK (kInt .u32) []),(.int .i64 0)])),(2,(.live 85 [(.int .i64 x.2),(.bool false),(slK (kInt .u32) []),(.int .i64 0)]))])) ?_ ?_
 ·rintro ⟨y27,y28⟩
  dsimp only [dyad_Sqrt_j1]
  refine .seq<|?_
  refine T.cut (X:=Bool × (List Int) × Int) (fun x=>dyad_Sqrt_j2 y28 x.1 x.2.1 x.2.2) (fun x=>(mkS [(6,some (.ptr 1 0)),(8,some (.ptr 2 0))] [(1,(.live 26 [(.bool false),(slK (kInt .u32) []),(.int .i64 0)])),(2,(.live 85 [(.int .i64 y28),(.bool x.1),(slK (kInt .u32) x.2.1),(.int .i64 x.2.2)]))])) ?_ ?_
  ·rintro ⟨y33,y34,y35⟩
   dsimp only [dyad_Sqrt_j2]
   refine .seq<|.seq<|.region<|.p (mv rfl)<|.bind fun x36 h14=>.w (cl (dw_told_k h14) [2] [] [true] rfl (.p rfl<|.nil) (.p rfl (.i<|.b<|.l<|.i<|.nil) .nil) fnil (.cons (.v (.i<|.b<|.l<|.i<|.nil)) .nil) (ren_tupL (.a kD<|.i<|.nil)) (.turned .nil) rfl)<|.p (xt rfl)<|.p (xt rfl)<|.n (sa ag26 rfl)<|.p (sg rfl)<|.nil<|.seq<|.ret<|fin_2 (.inr rfl) (.nil _) results92 (.a ag26 rfl) (.t rfl) (AVle.refl _)
  ·intro h15
   refine T.cond_p rfl iff_b (fun h16 h17=>?_) (fun h16 h17=>?_)
   ·refine .seq<|.region<|.p (mv rfl)<|.p (ar rfl)<|.p (ar rfl)<|.p (fa 0 fl26_0 rfl)<|.p (fa 1 fl24_1 rfl)<|.p (ls sc22 rfl)<|.bind fun x37 h18=>.p (c0 (nat_Bits_p h18) rfl)<|.p (ar rfl)<|?_
    refine TR.st 46 (.int .i64 (mx 0 (IntKind.i64.wrap ((IntKind.i64.wrap ((IntKind.i64.wrap (2*a1))+4))-x37)))) [] (snd_max _ _ _ _ _ _ rfl rfl rfl rfl rfl) rfl rfl rfl ?_
    refine .p (sg rfl)<|.nil<|.seq<|.seq<|.region<|.p (mv rfl)<|.p (fa 2 fl26_1 rfl)<|.p (ls sc3 rfl)<|.p (mv rfl)<|.p (ar rfl)<|.p (ar rfl)<|.p (ar rfl)<|.p (sg rfl)<|.nil<|?_
    refine .seq<|.seq<|.region<|.p (fa 0 fl26_0 rfl)<|.p (fa 1 fl24_1 rfl)<|.p (ls sc22 rfl)<|.p (mv rfl)<|.bind fun x38 h19=>.p (c0 (dyad_up_p h19) rfl)<|.bind fun x39 h20=>.p (c0 (quo_Sqrt_p h20) rfl)<|.p (mv rfl)<|.p (xt rfl)<|.p (xt rfl)<|?_
    refine .p (sg rfl)<|.p (sg rfl)<|.nil<|.seq<|.region<|.p (mv rfl)<|.p (mv rfl)<|.p (fa 2 fl26_1 rfl)<|.p (ls sc3 rfl)<|.p (mv rfl)<|.p (ar rfl)<|?_
    refine TR.st 69 (.int .i64 (IntKind.i64.wrap ((IntKind.i64.wrap (a0.E-(IntKind.i64.wrap ((mx 0 (IntKind.i64.wrap ((IntKind.i64.wrap ((IntKind.i64.wrap (2*a1))+4))-x37)))+(andI .i64 (IntKind.i64.wrap (a0.E-(mx 0 (IntKind.i64.wrap ((IntKind.i64.wrap ((IntKind.i64.wrap (2*a1))+4))-x37))))) 1))))).tdiv 2))) [] (snd_quo _ _ _ _ _ _ _ rfl rfl rfl rfl rfl (by decide)) rfl rfl rfl ?_
    refine .p (mv rfl)<|.p (ln underlying22 rfl)<|.p (ar rfl)<|.p (mv rfl)<|.p (mv rfl)<|.bind fun x40 h21=>.w (cl (dw_cut_k h21) [2] [] [true] rfl (.p rfl<|.b<|.l<|.i<|.b<|.i<|.b<|.nil) (.p rfl (.i<|.b<|.l<|.i<|.nil) .nil) fnil (.cons (.v (.i<|.b<|.l<|.i<|.nil)) .nil) (ren_tupL .nil) (.turned .nil) rfl)<|.nil<|.weak (h15 (x40.1,x40.2.1,x40.2.2)) (jn (m:=0) [(1,1),(2,2)] hE (.p rfl rfl<|.p rfl rfl<|.nil) (.v rfl (.b<|.l<|.i<|.nil)<|.v rfl (.i<|.b<|.l<|.i<|.nil)<|.nil) rfl)
   ·refine .skip<|.weak (h15 (false,[],0)) (jn (m:=0) [(1,1),(2,2)] hE (.p rfl rfl<|.p rfl rfl<|.nil) (.v rfl (.b<|.l<|.i<|.nil)<|.v rfl (.i<|.b<|.l<|.i<|.nil)<|.nil) rfl)
 ·intro h22
  refine .draw mixed<|.p (mv rfl)<|.p (la ag26 rfl)<|?_
  refine TD.st 16 (slK kD [a0]) [] (snd_buildSlice _ _ _ 3 _ _ [(0,(.agg (kD.enc a0)))] (List.map kD.enc [a0]) rfl underlying96 ze26 si26 rfl rfl rfl (by decide) (by decide) (by decide) rfl rfl (Kd.even _) rfl) rfl rfl rfl ?_
  refine .bind fun x41 h23=>.w (cl (dw_right_k h23) [2] [] [true] rfl (.p rfl<|.l<|.nil) (.p rfl (.i<|.b<|.l<|.i<|.nil) .nil) fnil (.cons (.v (.i<|.b<|.l<|.i<|.nil)) .nil) (.bool _) (.turned .nil) rfl)<|.p (mv rfl)<|?_
  refine TD.gd 18 _ rfl iff_b (fun h24=>?_) (fun h24=>?_)
  ·refine .p (mv rfl)<|.p (mv rfl)<|.bind fun x42 h25=>.w (cl (dw_prec_k h25) [2] [] [true] rfl (.p rfl<|.i<|.nil) (.p rfl (.i<|.b<|.l<|.i<|.nil) .nil) fnil (.cons (.v (.i<|.b<|.l<|.i<|.nil)) .nil) (.bool _) (.turned .nil) rfl)<|.p (pt rfl)<|.p (mv rfl)<|?_
   refine TD.gd 23 _ rfl iff_b (fun h26=>?_) (fun h26=>?_)
   ·refine .p (mv rfl)<|.p (nc rfl)<|.p (fa 0 fl85_0 rfl)<|.p (fa 0 fl26_0 rfl)<|.p (fa 0 fl24_0 rfl)<|.p (ls sc4 rfl)<|.p (un rfl)<|.bind fun x43 h27=>.w (cl (dyad_fault_must_k h27) [2] [] [true] rfl (.p rfl<|.b<|.i<|.nil) (.p rfl (.i<|.b<|.l<|.i<|.nil) .nil) fnil (.cons (.v (.i<|.b<|.l<|.i<|.nil)) .nil) (.bool _) (.turned .nil) rfl)<|.p (pt rfl)<|.p (mv rfl)<|?_
    refine TD.gd 33 _ rfl iff_b (fun h28=>?_) (fun h28=>?_)
    ·refine .p (la ag26 rfl)<|.bind fun x44 h29=>.p (c0 (dyad_zero_p h29) rfl)<|.p (un rfl)<|.p (pt rfl)<|.nil (by kernel_rfl)<|.weak (h22 ((!x44),x43.2)) (jn (m:=0) [(0,0),(1,1),(2,2)] hE (.i rfl<|.b rfl<|.p rfl rfl<|.p rfl rfl<|.p rfl rfl<|.b rfl<|.nil) (.v rfl (.b<|.l<|.i<|.nil)<|.v rfl (.b<|.l<|.i<|.nil)<|.v rfl (.i<|.b<|.l<|.i<|.nil)<|.nil) rfl)
    ·refine .k rfl<|.k rfl<|.k rfl<|.p (pf rfl)<|.nil (by kernel_rfl)<|.weak (h22 (false,x43.2)) (jn (m:=0) [(0,0),(1,1),(2,2)] hE (.i rfl<|.b rfl<|.p rfl rfl<|.p rfl rfl<|.p rfl rfl<|.b rfl<|.nil) (.v rfl (.b<|.l<|.i<|.nil)<|.v rfl (.b<|.l<|.i<|.nil)<|.v rfl (.i<|.b<|.l<|.i<|.nil)<|.nil) rfl)
   ·refine .k rfl<|.k rfl<|.k rfl<|.k rfl<|.k rfl<|.k rfl<|.k rfl<|.k rfl<|.p (pf rfl)<|.p (mv rfl)<|.k rfl<|.k rfl<|.k rfl<|.p (pf rfl)<|?_
    refine .nil (by kernel_rfl)<|.weak (h22 (false,x42.2)) (jn (m:=0) [(0,0),(1,1),(2,2)] hE (.i rfl<|.b rfl<|.p rfl rfl<|.p rfl rfl<|.p rfl rfl<|.b rfl<|.nil) (.v rfl (.b<|.l<|.i<|.nil)<|.v rfl (.b<|.l<|.i<|.nil)<|.v rfl (.i<|.b<|.l<|.i<|.nil)<|.nil) rfl)
  ·refine .k rfl<|.k rfl<|.k rfl<|.p (pf rfl)<|.p (mv rfl)<|.k rfl<|.k rfl<|.k rfl<|.k rfl<|.k rfl<|.k rfl<|.k rfl<|.k rfl<|.p (pf rfl)<|?_
   refine .p (mv rfl)<|.k rfl<|.k rfl<|.k rfl<|.p (pf rfl)<|.nil (by kernel_rfl)<|.weak (h22 (false,x41.2)) (jn (m:=0) [(0,0),(1,1),(2,2)] hE (.i rfl<|.b rfl<|.p rfl rfl<|.p rfl rfl<|.p rfl rfl<|.b rfl<|.nil) (.v rfl (.b<|.l<|.i<|.nil)<|.v rfl (.b<|.l<|.i<|.nil)<|.v rfl (.i<|.b<|.l<|.i<|.nil)<|.nil) rfl)
theorem dyad_Sqrt_p {a0:AD} {a1:Int} {a2:Bool} {r:AD × Int} (h:dyad_Sqrt a0 a1 a2=some r):Pur Tryz.prog 92 [(.agg (kD.enc a0)),(.int .i64 a1),(.bool a2)] (.tup [(.agg (kD.enc (⟨((r.1).M),(r.1).E⟩:AD))),(.int .i64 r.2)]):=⟨⟨_,func92,nm92,rfl⟩,dyad_Sqrt_c a0 a1 a2 _ h,fun _=>(.a kD<|.i<|.b<|.nil),fun _=>(ren_tupL (.a kD<|.i<|.nil))⟩
theorem cv_Sqrt_c (a0:AI) (a1:Int) (a2:Int):∀ r,cv_Sqrt a0 a1 a2=some r→ACalls Tryz.prog 27 [(.ptr 0 0),(.agg (kI.enc a0))] (lw [(.live 45 [(.int .i64 a1),(.int .i64 a2)])]) (.agg (kI.enc (⟨⟨(((r.1).Lo).M),((r.1).Lo).E⟩,⟨(((r.1).Hi).M),((r.1).Hi).E⟩⟩:AI))) (ld [(.live 45 [(.int .i64 r.2),(.int .i64 a2)])]):=by
 unfold cv_Sqrt
 refine go 1 func27 ntmps27 rfl ?_
 intro E hE
 refine .seq<|.region<|.w (bx 1 rfl)<|.w (al 2 ze34 rfl)<|.nil<|.seq<|.seq<|.seq<|.region<|.p (mv rfl)<|.p (la ag34 rfl)<|?_
 refine TR.st 8 (slK kI [a0]) [] (snd_buildSlice _ _ _ 6 _ _ [(0,(.agg (kI.enc a0)))] (List.map kI.enc [a0]) rfl underlying104 ze34 si34 rfl rfl rfl (by decide) (by decide) (by decide) rfl rfl (Kd.even _) rfl) rfl rfl rfl ?_
 refine .bind fun x7 h1=>.w (cl (cv_fine_k h1) [0] [] [true] rfl (.p rfl<|.l<|.nil) (.p rfl (.i<|.i<|.nil) .nil) fnil (.cons (.v (.i<|.i<|.nil)) .nil) (.bool _) (.turned .nil) rfl)<|.p (un rfl)<|.nil<|.seq<|?_
 refine T.cond_p rfl iff_nb (fun h2 h3=>?_) (fun h2 h3=>?_)
 ·refine .seq<|.region<|.p (bd ze34 pl34 rfl)<|.n (sa ag34 rfl)<|.nil<|.seq<|.ret<|.seq_ret<|fin_1 (.inr rfl) (.k rfl (.nil _)) results27 (.a ag34 rfl) (AVle.refl _)
 ·refine .skip<|.seq<|.seq<|.draw mixed<|.p (mv rfl)<|.p (fa 0 fl34_0 rfl)<|.p (la ag26 rfl)<|.p (mv rfl)<|.p (nc rfl)<|.p (fa 1 fl45_1 rfl)<|.p (ls sc3 rfl)<|.bind fun x8 h4=>.p (c0 (dyad_Sqrt_p h4) rfl)<|.p (xt rfl)<|?_
  refine .p (xt rfl)<|.bind fun x9 h5=>.w (cl (cv_take_k h5) [0] [] [true] rfl (.p rfl<|.a kD<|.i<|.nil) (.p rfl (.i<|.i<|.nil) .nil) fnil (.cons (.v (.i<|.i<|.nil)) .nil) (ren_agg (K:=kD) _) (.turned .nil) rfl)<|.w (al 3 ze26 rfl)<|.n (sa ag26 rfl)<|.nil (by kernel_rfl)<|.seq<|.seq<|.seq<|.region<|.p (mv rfl)<|.p (nc rfl)<|.p (fa 0 fl45_0 rfl)<|.p (fa 0 fl43_0 rfl)<|?_
  refine .p (ls sc29 rfl)<|.p (ar rfl)<|.nil<|.seq<|?_
  refine T.cond_p rfl iff_ne (fun h6 h7=>?_) (fun h6 h7=>?_)
  ·refine .seq<|.region<|.p (bd ze34 pl34 rfl)<|.n (sa ag34 rfl)<|.nil<|.seq<|.ret<|.seq_ret<|fin_1 (.inr rfl) (.k rfl (.nil _)) results27 (.a ag34 rfl) (AVle.refl _)
  ·refine .skip<|.seq<|.seq<|.draw mixed<|.p (mv rfl)<|.p (la ag26 rfl)<|.p (mv rfl)<|.p (fa 3 fl34_1 rfl)<|.p (la ag26 rfl)<|.p (mv rfl)<|.p (nc rfl)<|.p (fa 1 fl45_1 rfl)<|.p (ls sc3 rfl)<|.bind fun x10 h8=>?_
   refine .p (c0 (dyad_Sqrt_p h8) rfl)<|.p (xt rfl)<|.p (xt rfl)<|.bind fun x11 h9=>.w (cl (cv_take_k h9) [0] [] [true] rfl (.p rfl<|.a kD<|.i<|.nil) (.p rfl (.i<|.i<|.nil) .nil) fnil (.cons (.v (.i<|.i<|.nil)) .nil) (ren_agg (K:=kD) _) (.turned .nil) rfl)<|.bind fun x12 h10=>.p (cl (cv_out_k h10) [0] [] [false] rfl (.p rfl<|.a kD<|.a kD<|.nil) (.p rfl (.i<|.i<|.nil) .nil) fnil (.cons (.v (.i<|.i<|.nil)) .nil) (ren_agg (K:=kI) _) (.kept rfl .nil) rfl)<|.n (sa ag34 rfl)<|.nil (by kernel_rfl)<|.seq<|.ret<|fin_1 (.inr rfl) (.k rfl (.nil _)) results27 (.a ag34 rfl) (AVle.refl _)
theorem cv_Sqrt_k {a0:AI} {a1:Int} {a2:Int} {r:AI × Int} (h:cv_Sqrt a0 a1 a2=some r):Cal Tryz.prog 27 [(.ptr 0 0),(.agg (kI.enc a0))] [(.live 45 [(.int .i64 a1),(.int .i64 a2)])] (.agg (kI.enc (⟨⟨(((r.1).Lo).M),((r.1).Lo).E⟩,⟨(((r.1).Hi).M),((r.1).Hi).E⟩⟩:AI))) [(.live 45 [(.int .i64 r.2),(.int .i64 a2)])]:=⟨⟨_,func27,nm27,rfl⟩,cv_Sqrt_c a0 a1 a2 _ h⟩
theorem konst_Root_c (a0:Int) (a1:Int):∀ r,konst_Root a0 a1=some r→ACalls Tryz.prog 69 [(.ptr 0 0)] (lw [(.live 45 [(.int .i64 a0),(.int .i64 a1)])]) (.agg (kI.enc (⟨⟨(((r.1).Lo).M),((r.1).Lo).E⟩,⟨(((r.1).Hi).M),((r.1).Hi).E⟩⟩:AI))) (ld [(.live 45 [(.int .i64 r.2),(.int .i64 a1)])]):=by
 unfold konst_Root
 refine go 1 func69 ntmps69 rfl ?_
 intro E hE
 refine .seq<|.region<|.w (al 1 ze34 rfl)<|.nil<|.seq<|.seq<|.region<|.p (mv rfl)<|.p (mv rfl)<|.bind fun x3 h1=>.w (cl (konst_Pi_k h1) [0] [] [true] rfl (.p rfl<|.nil) (.p rfl (.i<|.i<|.nil) .nil) fnil (.cons (.v (.i<|.i<|.nil)) .nil) (ren_agg (K:=kI) _) (.turned .nil) rfl)<|.bind fun x4 h2=>.w (cl (cv_Sqrt_k h2) [0] [] [true] rfl (.p rfl<|.a kI<|.nil) (.p rfl (.i<|.i<|.nil) .nil) fnil (.cons (.v (.i<|.i<|.nil)) .nil) (ren_agg (K:=kI) _) (.turned .nil) rfl)<|.n (sa ag34 rfl)<|?_
 refine .nil<|.seq<|.ret<|fin_1 (.inr rfl) (.k rfl (.nil _)) results69 (.a ag34 rfl) (AVle.refl _)
theorem konst_Root_k {a0:Int} {a1:Int} {r:AI × Int} (h:konst_Root a0 a1=some r):Cal Tryz.prog 69 [(.ptr 0 0)] [(.live 45 [(.int .i64 a0),(.int .i64 a1)])] (.agg (kI.enc (⟨⟨(((r.1).Lo).M),((r.1).Lo).E⟩,⟨(((r.1).Hi).M),((r.1).Hi).E⟩⟩:AI))) [(.live 45 [(.int .i64 r.2),(.int .i64 a1)])]:=⟨⟨_,func69,nm69,rfl⟩,konst_Root_c a0 a1 _ h⟩
theorem r03_Sqrt_c (a0:List Int):∀ r,r03_Sqrt a0=some r→ACalls Tryz.prog 204 [(slK (kInt .u32) a0)] (lw []) (.tup [(slK (kInt .u32) r.1),(slK (kInt .u32) r.2)]) (ld []):=by
 unfold r03_Sqrt
 refine go 0 func204 ntmps204 rfl ?_
 intro E hE
 refine .seq<|.region<|?_
 refine TR.st 2 (slK (kInt .u32) []) [] (Snd.le (snd_assign _ _ rfl rfl rfl rfl) AVle.nil) rfl rfl rfl ?_
 refine TR.st 3 (slK (kInt .u32) []) [] (Snd.le (snd_assign _ _ rfl rfl rfl rfl) AVle.nil) rfl rfl rfl ?_
 refine .nil<|.seq<|.seq<|.region<|?_
 refine TR.st 4 (slK (kInt .u32) []) [] (Snd.le (snd_assign _ _ rfl rfl rfl rfl) AVle.nil) rfl rfl rfl ?_
 refine .nil<|.seq<|.seq<|.region<|.p (mv rfl)<|.bind fun x125 h1=>.p (c0 (r01_Trim_p h1) rfl)<|.p (sg rfl)<|.nil<|.seq<|.seq<|.seq<|.region<|.p (mv rfl)<|?_
 refine .bind fun x126 h2=>.p (c0 (r01_Bits_p h2) rfl)<|.p (ar rfl)<|?_
 refine TR.st 20 (.int .i64 (IntKind.i64.wrap ((IntKind.i64.wrap (x126-1)).tdiv 2))) [] (snd_quo _ _ _ _ _ _ _ rfl rfl rfl rfl rfl (by decide)) rfl rfl rfl ?_
 refine .p (sg rfl)<|.nil<|.seq<|?_
 refine T.cut (X:=(List Int) × (List Int)) (fun x=>r03_Sqrt_j1 x.1 x.2) (fun x=>(mkS [(4,some (slK (kInt .u32) x.1)),(5,some (slK (kInt .u32) x.2))] [])) ?_ ?_
 ·rintro ⟨y187,y188⟩
  dsimp only [r03_Sqrt_j1]
  refine .seq<|.seq<|.region<|.p (mv rfl)<|.p (mv rfl)<|.p (sg rfl)<|.p (sg rfl)<|.nil<|.seq<|.ret<|fin_2 (.inr rfl) (.nil _) results204 (.t rfl) (.t rfl) (AVle.refl _)
 ·intro h75
  refine .block<|.loopW (X:=(List Int) × (List Int) × Int) (fun n x=>r03_Sqrt_l2 n x.1 x.2.1 x.2.2) (fun x=>(mkS [(4,some (slK (kInt .u32) x.1)),(5,some (slK (kInt .u32) x.2.1)),(6,some (.int .i64 x.2.2))] [])) ([],x125,(IntKind.i64.wrap ((IntKind.i64.wrap (x126-1)).tdiv 2))) (jn (m:=0) [] hE (.l rfl<|.l rfl<|.i rfl<|.nil) .nil rfl) (fun _=>rfl) rfl<|?_
  rintro n2 ⟨y228,y229,y230⟩
  try dsimp only
  rw [r03_Sqrt_l2]
  refine .seq<|.seq<|.region<|.p (mv rfl)<|.p (ar rfl)<|.nil<|.seq<|?_
  refine T.cond_p rfl iff_dec (fun h124 h125=>?_) (fun h124 h125=>?_)
  ·refine .skip<|.seq<|.seq<|.block<|.seq<|.region<|.p (mv rfl)<|.bind fun x240 h137=>.p (c0 (r01_Shl_p h137) rfl)<|.p (mv rfl)<|.p (xt rfl)<|.p (xt rfl)<|.p (sg rfl)<|.p (sg rfl)<|?_
   refine .nil<|.seq<|.seq<|.region<|?_
   refine TR.st 31 (slK (kInt .u32) [1]) [] (snd_buildSlice _ _ _ 1 _ _ [(0,(.int .u32 1))] (List.map (kInt .u32).enc [1]) rfl underlying22 ze77 si77 rfl rfl rfl (by decide) (by decide) (by decide) rfl rfl (Kd.even _) rfl) rfl rfl rfl ?_
   refine .p (mv rfl)<|.bind fun x241 h138=>.p (c0 (r01_Shl_p h138) rfl)<|.p (mv rfl)<|.p (xt rfl)<|.p (xt rfl)<|.p (sg rfl)<|.p (sg rfl)<|.nil<|.seq<|.seq<|.region<|.p (mv rfl)<|.p (mv rfl)<|?_
   refine .bind fun x242 h139=>.p (c0 (r01_Add_p h139) rfl)<|.p (mv rfl)<|.bind fun x243 h140=>.p (c0 (r01_Shl_p h140) rfl)<|.p (mv rfl)<|.p (xt rfl)<|.p (xt rfl)<|.p (sg rfl)<|.p (sg rfl)<|.nil<|.seq<|.seq<|.region<|?_
   refine .p (mv rfl)<|.p (mv rfl)<|.bind fun x244 h141=>.p (c0 (r01_Sub_p h141) rfl)<|.p (mv rfl)<|.p (xt rfl)<|.p (xt rfl)<|.p (sg rfl)<|.p (sg rfl)<|.nil<|.seq<|.seq<|.region<|.p (mv rfl)<|?_
   refine .nil<|.seq<|?_
   refine T.cut (X:=(List Int) × (List Int)) (fun x=>r03_Sqrt_j3 (fun z0 z1 z2=>r03_Sqrt_l2 n2 z0 z1 z2) y230 x.1 x.2) (fun x=>(mkS [(4,some (slK (kInt .u32) x.1)),(5,some (slK (kInt .u32) x.2)),(6,some (.int .i64 y230))] [])) ?_ ?_
   ·rintro ⟨y246,y247⟩
    dsimp only [r03_Sqrt_j3]
    refine .block<|.seq<|.region<|.p (mv rfl)<|.p (ar rfl)<|.p (sg rfl)<|.nil<|.again (y246,y247,(IntKind.i64.wrap (y230-1))) (jn (m:=0) [] hE (.l rfl<|.l rfl<|.i rfl<|.nil) .nil rfl) rfl
   ·intro h145
    refine T.cond_p rfl iff_b (fun h146 h147=>?_) (fun h146 h147=>?_)
    ·refine .seq<|.region<|.p (mv rfl)<|.p (sg rfl)<|.nil<|.seq<|.region<|.p (mv rfl)<|.p (mv rfl)<|.bind fun x248 h148=>.p (c0 (r01_Add_p h148) rfl)<|.p (sg rfl)<|.nil<|.weak (h145 (x248,x244.1)) (jn (m:=0) [] hE (.l rfl<|.l rfl<|.i rfl<|.nil) .nil rfl)
    ·refine .skip<|.weak (h145 (y228,y229)) (jn (m:=0) [] hE (.l rfl<|.l rfl<|.i rfl<|.nil) .nil rfl)
  ·refine .exit<|.seq_exit<|.loop_exit<|.block_exit<|.weak (h75 (y228,y229)) (jn (m:=0) [] hE (.l rfl<|.l rfl<|.nil) .nil rfl)
theorem r03_Sqrt_p {a0:List Int} {r:(List Int) × (List Int)} (h:r03_Sqrt a0=some r):Pur Tryz.prog 204 [(slK (kInt .u32) a0)] (.tup [(slK (kInt .u32) r.1),(slK (kInt .u32) r.2)]):=⟨⟨_,func204,nm204,rfl⟩,r03_Sqrt_c a0 _ h,fun _=>(.l<|.nil),fun _=>(ren_tupL (.l<|.l<|.nil))⟩
theorem r05_Sqrt_c (a0:AD) (a1:Int) (a2:Bool):∀ r,r05_Sqrt a0 a1 a2=some r→ACalls Tryz.prog 180 [(.agg (kD.enc a0)),(.int .i64 a1),(.bool a2)] (lw []) (.tup [(.agg (kD.enc (⟨((r.1).M),(r.1).E⟩:AD))),(.int .i64 r.2)]) (ld []):=by
 unfold r05_Sqrt
 refine go 0 func180 ntmps180 rfl ?_
 intro E hE
 refine .seq<|.region<|.w (bx 0 rfl)<|.w (al 1 ze26 rfl)<|.p (sg rfl)<|.nil<|.seq<|.seq<|.region<|.p (la ag26 rfl)<|.bind fun x11 h1=>.p (c0 (r05_Right_p h1) rfl)<|.p (sg rfl)<|.nil<|?_
 refine .seq<|.seq<|.seq<|?_
 refine T.cut (X:=Bool) (fun x=>r05_Sqrt_j1 a0 a1 a2 x) (fun x=>(mkS [(1,some (.int .i64 a1)),(2,some (.bool a2)),(3,some (.ptr 0 0)),(6,some (.ptr 1 0)),(20,some (.bool x))] [(0,(.live 26 [(.bool a0.M.Neg),(slK (kInt .u32) a0.M.Mag),(.int .i64 a0.E)])),(1,(.live 26 [(.bool false),(slK (kInt .u32) []),(.int .i64 0)]))])) ?_ ?_
 ·rintro y13
  dsimp only [r05_Sqrt_j1]
  refine .seq<|?_
  refine T.cond_p rfl iff_b (fun h4 h5=>?_) (fun h4 h5=>?_)
  ·refine .seq<|.region<|.p (bd ze26 pl26 rfl)<|.n (sa ag26 rfl)<|.p (sg rfl)<|.nil<|.seq<|.ret<|.seq_ret<|fin_2 (.inr rfl) (.nil _) results180 (.a ag26 rfl) (.t rfl) (AVle.refl _)
  ·refine .skip<|.seq<|.seq<|.seq<|.region<|.p (fa 0 fl26_0 rfl)<|.p (fa 0 fl24_0 rfl)<|.p (ls sc4 rfl)<|.nil<|.seq<|?_
   refine T.cond_p rfl iff_b (fun h6 h7=>?_) (fun h6 h7=>?_)
   ·refine .seq<|.region<|.p (bd ze26 pl26 rfl)<|.n (sa ag26 rfl)<|.p (sg rfl)<|.nil<|.seq<|.ret<|.seq_ret<|fin_2 (.inr rfl) (.nil _) results180 (.a ag26 rfl) (.t rfl) (AVle.refl _)
   ·refine .skip<|.seq<|.seq<|.seq<|.region<|.p (fa 0 fl26_0 rfl)<|.p (fa 1 fl24_1 rfl)<|.p (ls sc22 rfl)<|.p (ln underlying22 rfl)<|.p (ar rfl)<|.nil<|.seq<|?_
    refine T.cond_p rfl iff_eq (fun h8 h9=>?_) (fun h8 h9=>?_)
    ·refine .seq<|.region<|.p (bd ze26 pl26 rfl)<|.n (sa ag26 rfl)<|.p (sg rfl)<|.nil<|.seq<|.ret<|.seq_ret<|fin_2 (.inr rfl) (.nil _) results180 (.a ag26 rfl) (.t rfl) (AVle.refl _)
    ·refine .skip<|.seq<|.seq<|.region<|.p (mv rfl)<|.p (ar rfl)<|.p (ar rfl)<|.p (fa 0 fl26_0 rfl)<|.p (fa 1 fl24_1 rfl)<|.p (ls sc22 rfl)<|.bind fun x14 h10=>.p (c0 (r01_Bits_p h10) rfl)<|.p (ar rfl)<|?_
     refine TR.st 40 (.int .i64 (mx 0 (IntKind.i64.wrap ((IntKind.i64.wrap ((IntKind.i64.wrap (2*a1))+4))-x14)))) [] (snd_max _ _ _ _ _ _ rfl rfl rfl rfl rfl) rfl rfl rfl ?_
     refine .p (sg rfl)<|.nil<|.seq<|.seq<|.seq<|.region<|.p (fa 2 fl26_1 rfl)<|.p (ls sc3 rfl)<|.p (mv rfl)<|.p (ar rfl)<|?_
     refine TR.st 45 (.int .i64 ((IntKind.i64.wrap (a0.E-(mx 0 (IntKind.i64.wrap ((IntKind.i64.wrap ((IntKind.i64.wrap (2*a1))+4))-x14))))).tmod 2)) [] (snd_rem _ _ _ _ _ _ _ rfl rfl rfl rfl rfl (by decide)) rfl rfl rfl ?_
     refine .p (ar rfl)<|.nil<|.seq<|?_
     refine T.cut (X:=Int) (fun x=>r05_Sqrt_j2 a0 a1 a2 x) (fun x=>(mkS [(1,some (.int .i64 a1)),(2,some (.bool a2)),(3,some (.ptr 0 0)),(6,some (.ptr 1 0)),(9,some (.int .i64 x))] [(0,(.live 26 [(.bool a0.M.Neg),(slK (kInt .u32) a0.M.Mag),(.int .i64 a0.E)])),(1,(.live 26 [(.bool false),(slK (kInt .u32) []),(.int .i64 0)]))])) ?_ ?_
     ·rintro y15
      dsimp only [r05_Sqrt_j2]
      refine .seq<|.seq<|.region<|.p (fa 0 fl26_0 rfl)<|.p (fa 1 fl24_1 rfl)<|.p (ls sc22 rfl)<|.p (mv rfl)<|.bind fun x16 h13=>.p (c0 (r05_upMag_p h13) rfl)<|.bind fun x17 h14=>.p (c0 (r03_Sqrt_p h14) rfl)<|.p (mv rfl)<|.p (xt rfl)<|.p (xt rfl)<|?_
      refine .p (sg rfl)<|.p (sg rfl)<|.nil<|.seq<|.seq<|.region<|.p (mv rfl)<|.p (fa 2 fl26_1 rfl)<|.p (ls sc3 rfl)<|.p (mv rfl)<|.p (ar rfl)<|?_
      refine TR.st 63 (.int .i64 (IntKind.i64.wrap ((IntKind.i64.wrap (a0.E-y15)).tdiv 2))) [] (snd_quo _ _ _ _ _ _ _ rfl rfl rfl rfl rfl (by decide)) rfl rfl rfl ?_
      refine .p (mv rfl)<|.p (ln underlying22 rfl)<|.p (ar rfl)<|.p (mv rfl)<|.p (mv rfl)<|.bind fun x18 h15=>.p (c0 (r05_cut_p h15) rfl)<|.bind fun x19 h16=>.p (c0 (r05_told_p h16) rfl)<|.p (xt rfl)<|.p (xt rfl)<|.n (sa ag26 rfl)<|.p (sg rfl)<|.nil<|?_
      refine .seq<|.ret<|fin_2 (.inr rfl) (.nil _) results180 (.a ag26 rfl) (.t rfl) (AVle.refl _)
     ·intro h17
      refine T.cond_p rfl iff_ne (fun h18 h19=>?_) (fun h18 h19=>?_)
      ·refine .region<|.p (mv rfl)<|.p (ar rfl)<|.p (sg rfl)<|.nil<|.weak (h17 (IntKind.i64.wrap ((mx 0 (IntKind.i64.wrap ((IntKind.i64.wrap ((IntKind.i64.wrap (2*a1))+4))-x14)))+1))) (jn (m:=0) [(0,0),(1,1)] hE (.i rfl<|.b rfl<|.p rfl rfl<|.p rfl rfl<|.i rfl<|.nil) (.v rfl (.b<|.l<|.i<|.nil)<|.v rfl (.b<|.l<|.i<|.nil)<|.nil) rfl)
      ·refine .skip<|.weak (h17 (mx 0 (IntKind.i64.wrap ((IntKind.i64.wrap ((IntKind.i64.wrap (2*a1))+4))-x14)))) (jn (m:=0) [(0,0),(1,1)] hE (.i rfl<|.b rfl<|.p rfl rfl<|.p rfl rfl<|.i rfl<|.nil) (.v rfl (.b<|.l<|.i<|.nil)<|.v rfl (.b<|.l<|.i<|.nil)<|.nil) rfl)
 ·intro h20
  refine .region<|.p (mv rfl)<|.p (un rfl)<|.p (mv rfl)<|?_
  refine TR.gd 16 _ rfl iff_nb (fun h21=>?_) (fun h21=>?_)
  ·refine .k rfl<|.k rfl<|.k rfl<|.p (pt rfl)<|.nil<|.weak (h20 true) (jn (m:=0) [(0,0),(1,1)] hE (.i rfl<|.b rfl<|.p rfl rfl<|.p rfl rfl<|.b rfl<|.nil) (.v rfl (.b<|.l<|.i<|.nil)<|.v rfl (.b<|.l<|.i<|.nil)<|.nil) rfl)
  ·refine .p (mv rfl)<|.bind fun x20 h22=>.p (c0 (r05_prec_p h22) rfl)<|.p (un rfl)<|.p (pf rfl)<|.nil<|.weak (h20 (!x20)) (jn (m:=0) [(0,0),(1,1)] hE (.i rfl<|.b rfl<|.p rfl rfl<|.p rfl rfl<|.b rfl<|.nil) (.v rfl (.b<|.l<|.i<|.nil)<|.v rfl (.b<|.l<|.i<|.nil)<|.nil) rfl)
theorem r05_Sqrt_p {a0:AD} {a1:Int} {a2:Bool} {r:AD × Int} (h:r05_Sqrt a0 a1 a2=some r):Pur Tryz.prog 180 [(.agg (kD.enc a0)),(.int .i64 a1),(.bool a2)] (.tup [(.agg (kD.enc (⟨((r.1).M),(r.1).E⟩:AD))),(.int .i64 r.2)]):=⟨⟨_,func180,nm180,rfl⟩,r05_Sqrt_c a0 a1 a2 _ h,fun _=>(.a kD<|.i<|.b<|.nil),fun _=>(ren_tupL (.a kD<|.i<|.nil))⟩
theorem r06_CSqrt_c (a0:AI) (a1:Int) (a2:Int):∀ r,r06_CSqrt a0 a1 a2=some r→ACalls Tryz.prog 129 [(.ptr 0 0),(.agg (kI.enc a0))] (lw [(.live 65 [(.int .i64 a1),(.int .i64 a2)])]) (.agg (kI.enc (⟨⟨(((r.1).Lo).M),((r.1).Lo).E⟩,⟨(((r.1).Hi).M),((r.1).Hi).E⟩⟩:AI))) (ld [(.live 65 [(.int .i64 a1),(.int .i64 r.2)])]):=by
 unfold r06_CSqrt
 refine go 1 func129 ntmps129 rfl ?_
 intro E hE
 refine .seq<|.region<|.w (bx 1 rfl)<|.w (al 2 ze34 rfl)<|.nil<|.seq<|.seq<|.seq<|.region<|.p (mv rfl)<|.p (la ag34 rfl)<|?_
 refine TR.st 11 (slK kI [a0]) [] (snd_buildSlice _ _ _ 6 _ _ [(0,(.agg (kI.enc a0)))] (List.map kI.enc [a0]) rfl underlying104 ze34 si34 rfl rfl rfl (by decide) (by decide) (by decide) rfl rfl (Kd.even _) rfl) rfl rfl rfl ?_
 refine .bind fun x7 h1=>.w (cl (r06_Carg_k h1) [0] [] [true] rfl (.p rfl<|.l<|.nil) (.p rfl (.i<|.i<|.nil) .nil) fnil (.cons (.v (.i<|.i<|.nil)) .nil) (.bool _) (.turned .nil) rfl)<|.p (un rfl)<|.nil<|.seq<|?_
 refine T.cond_p rfl iff_nb (fun h2 h3=>?_) (fun h2 h3=>?_)
 ·refine .seq<|.region<|.p (bd ze34 pl34 rfl)<|.n (sa ag34 rfl)<|.nil<|.seq<|.ret<|.seq_ret<|fin_1 (.inr rfl) (.k rfl (.nil _)) results129 (.a ag34 rfl) (AVle.refl _)
 ·refine .skip<|.seq<|.seq<|.draw mixed<|.p (fa 0 fl34_0 rfl)<|.p (la ag26 rfl)<|.p (mv rfl)<|.p (nc rfl)<|.p (fa 0 fl65_0 rfl)<|.p (ls sc3 rfl)<|.bind fun x8 h4=>.p (c0 (r05_Sqrt_p h4) rfl)<|.p (mv rfl)<|.p (xt rfl)<|?_
  refine .p (xt rfl)<|.w (al 3 ze26 rfl)<|.n (sa ag26 rfl)<|.p (sg rfl)<|.nil (by kernel_rfl)<|.seq<|.seq<|.seq<|.region<|.p (mv rfl)<|.p (mv rfl)<|.bind fun x9 h5=>.w (cl (r06_Cerr_k h5) [0] [] [true] rfl (.p rfl<|.i<|.nil) (.p rfl (.i<|.i<|.nil) .nil) fnil (.cons (.v (.i<|.i<|.nil)) .nil) (.bool _) (.turned .nil) rfl)<|.p (un rfl)<|?_
  refine .nil<|.seq<|?_
  refine T.cond_p rfl iff_nb (fun h6 h7=>?_) (fun h6 h7=>?_)
  ·refine .seq<|.region<|.p (bd ze34 pl34 rfl)<|.n (sa ag34 rfl)<|.nil<|.seq<|.ret<|.seq_ret<|fin_1 (.inr rfl) (.k rfl (.nil _)) results129 (.a ag34 rfl) (AVle.refl _)
  ·refine .skip<|.seq<|.seq<|.draw mixed<|.p (fa 3 fl34_1 rfl)<|.p (la ag26 rfl)<|.p (mv rfl)<|.p (nc rfl)<|.p (fa 0 fl65_0 rfl)<|.p (ls sc3 rfl)<|.bind fun x10 h8=>.p (c0 (r05_Sqrt_p h8) rfl)<|.p (mv rfl)<|.p (xt rfl)<|?_
   refine .p (xt rfl)<|.w (al 4 ze26 rfl)<|.n (sa ag26 rfl)<|.p (sg rfl)<|.nil (by kernel_rfl)<|.seq<|.seq<|.region<|.p (mv rfl)<|.p (mv rfl)<|.bind fun x11 h9=>.w (cl (r06_Cerr_k h9) [0] [] [true] rfl (.p rfl<|.i<|.nil) (.p rfl (.i<|.i<|.nil) .nil) fnil (.cons (.v (.i<|.i<|.nil)) .nil) (.bool _) (.turned .nil) rfl)<|.nil<|.seq<|?_
   refine .seq<|.region<|.p (mv rfl)<|.p (la ag26 rfl)<|.p (la ag26 rfl)<|.bind fun x12 h10=>.p (cl (r06_Cout_k h10) [0] [] [false] rfl (.p rfl<|.a kD<|.a kD<|.nil) (.p rfl (.i<|.i<|.nil) .nil) fnil (.cons (.v (.i<|.i<|.nil)) .nil) (ren_agg (K:=kI) _) (.kept rfl .nil) rfl)<|.n (sa ag34 rfl)<|.nil<|.seq<|.ret<|fin_1 (.inr rfl) (.k rfl (.nil _)) results129 (.a ag34 rfl) (AVle.refl _)
theorem r06_CSqrt_k {a0:AI} {a1:Int} {a2:Int} {r:AI × Int} (h:r06_CSqrt a0 a1 a2=some r):Cal Tryz.prog 129 [(.ptr 0 0),(.agg (kI.enc a0))] [(.live 65 [(.int .i64 a1),(.int .i64 a2)])] (.agg (kI.enc (⟨⟨(((r.1).Lo).M),((r.1).Lo).E⟩,⟨(((r.1).Hi).M),((r.1).Hi).E⟩⟩:AI))) [(.live 65 [(.int .i64 a1),(.int .i64 r.2)])]:=⟨⟨_,func129,nm129,rfl⟩,r06_CSqrt_c a0 a1 a2 _ h⟩
theorem r08_Root_c (a0:Int) (a1:Int):∀ r,r08_Root a0 a1=some r→ACalls Tryz.prog 70 [(.ptr 0 0)] (lw [(.live 65 [(.int .i64 a0),(.int .i64 a1)])]) (.agg (kI.enc (⟨⟨(((r.1).Lo).M),((r.1).Lo).E⟩,⟨(((r.1).Hi).M),((r.1).Hi).E⟩⟩:AI))) (ld [(.live 65 [(.int .i64 a0),(.int .i64 r.2)])]):=by
 unfold r08_Root
 refine go 1 func70 ntmps70 rfl ?_
 intro E hE
 refine .seq<|.region<|.w (al 1 ze34 rfl)<|.nil<|.seq<|.seq<|.region<|.p (mv rfl)<|.p (mv rfl)<|.bind fun x3 h1=>.w (cl (r08_Pi_k h1) [0] [] [true] rfl (.p rfl<|.nil) (.p rfl (.i<|.i<|.nil) .nil) fnil (.cons (.v (.i<|.i<|.nil)) .nil) (ren_agg (K:=kI) _) (.turned .nil) rfl)<|.bind fun x4 h2=>.w (cl (r06_CSqrt_k h2) [0] [] [true] rfl (.p rfl<|.a kI<|.nil) (.p rfl (.i<|.i<|.nil) .nil) fnil (.cons (.v (.i<|.i<|.nil)) .nil) (ren_agg (K:=kI) _) (.turned .nil) rfl)<|.n (sa ag34 rfl)<|?_
 refine .nil<|.seq<|.ret<|fin_1 (.inr rfl) (.k rfl (.nil _)) results70 (.a ag34 rfl) (AVle.refl _)
theorem r08_Root_k {a0:Int} {a1:Int} {r:AI × Int} (h:r08_Root a0 a1=some r):Cal Tryz.prog 70 [(.ptr 0 0)] [(.live 65 [(.int .i64 a0),(.int .i64 a1)])] (.agg (kI.enc (⟨⟨(((r.1).Lo).M),((r.1).Lo).E⟩,⟨(((r.1).Hi).M),((r.1).Hi).E⟩⟩:AI))) [(.live 65 [(.int .i64 a0),(.int .i64 r.2)])]:=⟨⟨_,func70,nm70,rfl⟩,r08_Root_c a0 a1 _ h⟩
theorem l08_KonstTold_c (a0:Int) (a1:Int):∀ r,l08_KonstTold a0 a1=some r→ACalls Tryz.prog 12 [(.int .i64 a0),(.int .i64 a1)] (lw []) (.bool r) (ld []):=by
 unfold l08_KonstTold
 refine go 0 func12 ntmps12 rfl ?_
 intro E hE
 refine .seq<|.region<|.p (sg rfl)<|.nil<|.seq<|.seq<|.region<|.bind fun x94 h1=>.p (c0 (l08_examples_p h1) rfl)<|.p (sg rfl)<|.nil<|.seq<|.seq<|.seq<|?_
 refine .region<|.p (mv rfl)<|.p (un rfl)<|.nil<|.seq<|?_
 refine T.cond_p rfl iff_nb (fun h2 h3=>?_) (fun h2 h3=>?_)
 ·refine .seq<|.region<|.p (sg rfl)<|.nil<|.seq<|.ret<|.seq_ret<|fin_1 (.inr rfl) (.nil _) results12 (.t rfl) (AVle.refl _)
 ·refine .skip<|.seq<|.seq<|.region<|.p (mv rfl)<|?_
  refine TR.st 14 (.int .i64 (mn a0 200)) [] (snd_min _ _ _ _ _ _ rfl rfl rfl rfl rfl) rfl rfl rfl ?_
  refine .p (sg rfl)<|.nil<|.seq<|.seq<|.region<|.p (mv rfl)<|.bind fun x95 h4=>?_
  rcases x95 with x96 | x97
  ·dsimp only
   refine .w (cl (iv_New_k_0 h4) [] [0] [true] rfl (.i<|.nil) .nil (fresh_cons rfl fnil) (.cons .dead .nil) (ren_tupL (.cons .nilptr<|.i<|.nil)) (.turned .nil) rfl)<|.p (mv rfl)<|.p (xt rfl)<|.p (xt rfl)<|.p (sg rfl)<|.p (sg rfl)<|.nil<|.seq<|.seq<|.region<|.p (mv rfl)<|.bind fun x98 h5=>?_
   rcases x98 with x99 | x100
   ·dsimp only
    refine .w (cl (r06_New_k_0 h5) [] [1] [true] rfl (.i<|.nil) .nil (fresh_cons rfl fnil) (.cons .dead .nil) .nilptr (.turned .nil) rfl)<|.p (sg rfl)<|.nil<|.seq<|.seq<|.seq<|.region<|.p (mv rfl)<|?_
    refine TR.st 23 (.bool true) [] (snd_ptr_nil _ _ _ _ _ _ _ true true rfl underlying28 rfl rfl rfl (.inr ⟨rfl,rfl⟩) rfl (.inl ⟨rfl,rfl⟩)) rfl rfl rfl ?_
    refine .p (mv rfl)<|.k rfl<|.k rfl<|.p (pt rfl)<|.nil<|.seq<|.cond_t rfl<|.seq<|?_
    refine T.cut (X:=Bool) (fun x=>l08_KonstTold_j1 x) (fun x=>(mkS [(4,some (.bool x))] [])) ?_ ?_
    ·rintro y101
     dsimp only [l08_KonstTold_j1]
     refine .seq<|.ret<|.seq_ret<|fin_1 (.inr rfl) (.nil _) results12 (.t rfl) (AVle.refl _)
    ·intro h7
     refine .region<|.p (mv rfl)<|.p (mv rfl)<|?_
     refine TR.gd 29 _ rfl iff_b (fun h8=>?_) (fun h8=>?_)
     ·refine .p (mv rfl)<|?_
      refine TR.st 31 (.bool true) [] (snd_ptr_nil _ _ _ _ _ _ _ true true rfl underlying28 rfl rfl rfl (.inr ⟨rfl,rfl⟩) rfl (.inl ⟨rfl,rfl⟩)) rfl rfl rfl ?_
      refine .p (pt rfl)<|.p (mv rfl)<|.p (mv rfl)<|?_
      refine TR.st 35 (.bool true) [] (snd_ptr_nil _ _ _ _ _ _ _ true true rfl underlying61 rfl rfl rfl (.inr ⟨rfl,rfl⟩) rfl (.inl ⟨rfl,rfl⟩)) rfl rfl rfl ?_
      refine .p (pt rfl)<|.p (mv rfl)<|.p (mv rfl)<|.p (ar rfl)<|.p (pt rfl)<|.p (sg rfl)<|.nil<|.weak (h7 (x96 == 1)) (jn (m:=0) [] hE (.b rfl<|.nil) .nil rfl)
     ·refine .k rfl<|.k rfl<|.p (pf rfl)<|.p (mv rfl)<|.k rfl<|.k rfl<|.p (pf rfl)<|.p (mv rfl)<|.k rfl<|.k rfl<|.p (pf rfl)<|.p (sg rfl)<|.nil<|.weak (h7 false) (jn (m:=0) [] hE (.b rfl<|.nil) .nil rfl)
   ·dsimp only
    refine .w (cl (r06_New_k_1 h5) [] [1] [true] rfl (.i<|.nil) .nil (fresh_cons rfl fnil) (.cons (.v (.i<|.i<|.nil)) .nil) (.ptr _ _ _ rfl) (.turned .nil) rfl)<|.p (sg rfl)<|.nil<|.seq<|.seq<|.seq<|.region<|.p (mv rfl)<|?_
    refine TR.st 23 (.bool true) [] (snd_ptr_nil _ _ _ _ _ _ _ true true rfl underlying28 rfl rfl rfl (.inr ⟨rfl,rfl⟩) rfl (.inl ⟨rfl,rfl⟩)) rfl rfl rfl ?_
    refine .p (mv rfl)<|.k rfl<|.k rfl<|.p (pt rfl)<|.nil<|.seq<|.cond_t rfl<|.seq<|?_
    refine T.cut (X:=Unit) (fun x=>l08_KonstTold_j2) (fun x=>(mkS [(4,some (.bool false))] [])) ?_ ?_
    ·rintro _
     dsimp only [l08_KonstTold_j2]
     refine .seq<|.ret<|.seq_ret<|fin_1 (.inr rfl) (.nil _) results12 (.t rfl) (AVle.refl _)
    ·intro h10
     refine .region<|.p (mv rfl)<|.p (mv rfl)<|?_
     refine TR.gd 29 _ rfl iff_b (fun h11=>?_) (fun h11=>?_)
     ·refine .p (mv rfl)<|?_
      refine TR.st 31 (.bool true) [] (snd_ptr_nil _ _ _ _ _ _ _ true true rfl underlying28 rfl rfl rfl (.inr ⟨rfl,rfl⟩) rfl (.inl ⟨rfl,rfl⟩)) rfl rfl rfl ?_
      refine .p (pt rfl)<|.p (mv rfl)<|.p (mv rfl)<|?_
      refine TR.st 35 (.bool false) [] (snd_ptr_nil _ _ _ _ _ _ _ false false rfl underlying61 rfl rfl rfl (.inl ⟨⟨_,_,rfl⟩,rfl⟩) rfl (.inl ⟨rfl,rfl⟩)) rfl rfl rfl ?_
      refine .p (pt rfl)<|.p (mv rfl)<|.k rfl<|.k rfl<|.p (pf rfl)<|.p (sg rfl)<|.nil<|.weak (h10 ()) (jn (m:=0) [] hE (.b rfl<|.nil) .nil rfl)
     ·refine .k rfl<|.k rfl<|.p (pf rfl)<|.p (mv rfl)<|.k rfl<|.k rfl<|.p (pf rfl)<|.p (mv rfl)<|.k rfl<|.k rfl<|.p (pf rfl)<|.p (sg rfl)<|.nil<|.weak (h10 ()) (jn (m:=0) [] hE (.b rfl<|.nil) .nil rfl)
  ·dsimp only
   refine .w (cl (iv_New_k_1 h4) [] [0] [true] rfl (.i<|.nil) .nil (fresh_cons rfl fnil) (.cons (.v (.i<|.i<|.nil)) .nil) (ren_tupL (.p rfl<|.i<|.nil)) (.turned .nil) rfl)<|.p (mv rfl)<|.p (xt rfl)<|.p (xt rfl)<|.p (sg rfl)<|.p (sg rfl)<|.nil<|.seq<|.seq<|.region<|.p (mv rfl)<|.bind fun x102 h12=>?_
   rcases x102 with x103 | x104
   ·dsimp only
    refine .w (cl (r06_New_k_0 h12) [] [1] [true] rfl (.i<|.nil) .nil (fresh_cons rfl fnil) (.cons .dead .nil) .nilptr (.turned .nil) rfl)<|.p (sg rfl)<|.nil<|.seq<|.seq<|.seq<|.region<|.p (mv rfl)<|?_
    refine TR.st 23 (.bool false) [] (snd_ptr_nil _ _ _ _ _ _ _ false false rfl underlying28 rfl rfl rfl (.inl ⟨⟨_,_,rfl⟩,rfl⟩) rfl (.inl ⟨rfl,rfl⟩)) rfl rfl rfl ?_
    refine .p (mv rfl)<|.p (mv rfl)<|?_
    refine TR.st 26 (.bool true) [] (snd_ptr_nil _ _ _ _ _ _ _ true true rfl underlying61 rfl rfl rfl (.inr ⟨rfl,rfl⟩) rfl (.inl ⟨rfl,rfl⟩)) rfl rfl rfl ?_
    refine .p (pf rfl)<|.nil<|.seq<|.cond_t rfl<|.seq<|?_
    refine T.cut (X:=Unit) (fun x=>l08_KonstTold_j3) (fun x=>(mkS [(4,some (.bool false))] [])) ?_ ?_
    ·rintro _
     dsimp only [l08_KonstTold_j3]
     refine .seq<|.ret<|.seq_ret<|fin_1 (.inr rfl) (.nil _) results12 (.t rfl) (AVle.refl _)
    ·intro h14
     refine .region<|.p (mv rfl)<|.p (mv rfl)<|?_
     refine TR.gd 29 _ rfl iff_b (fun h15=>?_) (fun h15=>?_)
     ·refine .p (mv rfl)<|?_
      refine TR.st 31 (.bool false) [] (snd_ptr_nil _ _ _ _ _ _ _ false false rfl underlying28 rfl rfl rfl (.inl ⟨⟨_,_,rfl⟩,rfl⟩) rfl (.inl ⟨rfl,rfl⟩)) rfl rfl rfl ?_
      refine .p (pt rfl)<|.p (mv rfl)<|.k rfl<|.k rfl<|.p (pf rfl)<|.p (mv rfl)<|.k rfl<|.k rfl<|.p (pf rfl)<|.p (sg rfl)<|.nil<|.weak (h14 ()) (jn (m:=0) [] hE (.b rfl<|.nil) .nil rfl)
     ·refine .k rfl<|.k rfl<|.p (pf rfl)<|.p (mv rfl)<|.k rfl<|.k rfl<|.p (pf rfl)<|.p (mv rfl)<|.k rfl<|.k rfl<|.p (pf rfl)<|.p (sg rfl)<|.nil<|.weak (h14 ()) (jn (m:=0) [] hE (.b rfl<|.nil) .nil rfl)
   ·dsimp only
    refine .w (cl (r06_New_k_1 h12) [] [1] [true] rfl (.i<|.nil) .nil (fresh_cons rfl fnil) (.cons (.v (.i<|.i<|.nil)) .nil) (.ptr _ _ _ rfl) (.turned .nil) rfl)<|.p (sg rfl)<|.nil<|.seq<|.seq<|.seq<|.region<|.p (mv rfl)<|?_
    refine TR.st 23 (.bool false) [] (snd_ptr_nil _ _ _ _ _ _ _ false false rfl underlying28 rfl rfl rfl (.inl ⟨⟨_,_,rfl⟩,rfl⟩) rfl (.inl ⟨rfl,rfl⟩)) rfl rfl rfl ?_
    refine .p (mv rfl)<|.p (mv rfl)<|?_
    refine TR.st 26 (.bool false) [] (snd_ptr_nil _ _ _ _ _ _ _ false false rfl underlying61 rfl rfl rfl (.inl ⟨⟨_,_,rfl⟩,rfl⟩) rfl (.inl ⟨rfl,rfl⟩)) rfl rfl rfl ?_
    refine .p (pf rfl)<|.nil<|.seq<|.cond_f rfl<|.skip<|.seq<|.seq<|.seq<|.region<|.p (mv rfl)<|.p (ar rfl)<|.nil<|.seq<|?_
    refine T.cut (X:=Int) (fun x=>l08_KonstTold_j4 x97 x104 x94 x) (fun x=>(mkS [(1,some (.int .i64 x)),(5,some (.bool x94)),(6,some (.ptr 0 0)),(8,some (.ptr 1 0))] [(0,(.live 45 [(.int .i64 x97.2.1),(.int .i64 x97.2.2)])),(1,(.live 65 [(.int .i64 x104.1),(.int .i64 x104.2)]))])) ?_ ?_
    ·rintro y105
     dsimp only [l08_KonstTold_j4]
     refine .seq<|.seq<|.region<|.p (sg rfl)<|.nil<|.seq<|.seq<|.seq<|.region<|.p (mv rfl)<|?_
     refine TR.st 47 (.int .i64 (y105.tmod 3)) [] (snd_rem _ _ _ _ _ _ _ rfl rfl rfl rfl rfl (by decide)) rfl rfl rfl ?_
     refine .nil<|.seq<|.block<|.seq<|.region<|.p (ar rfl)<|.p (sg rfl)<|.nil<|.seq<|?_
     refine T.cut (X:=Bool × Int × Int) (fun x=>l08_KonstTold_j5 x94 x97 x.1 x.2.1 x.2.2) (fun x=>(mkS [(5,some (.bool x94)),(6,some (.ptr 0 0)),(8,some (.ptr 1 0)),(9,some (.bool x.1))] [(0,(.live 45 [(.int .i64 x.2.1),(.int .i64 x97.2.2)])),(1,(.live 65 [(.int .i64 x104.1),(.int .i64 x.2.2)]))])) ?_ ?_
     ·rintro ⟨y163,y164,y165⟩
      dsimp only [l08_KonstTold_j5]
      refine .block<|.seq<|.seq<|?_
      refine T.cut (X:=Bool) (fun x=>l08_KonstTold_j6 x) (fun x=>(mkS [(4,some (.bool x))] [])) ?_ ?_
      ·rintro y167
       dsimp only [l08_KonstTold_j6]
       refine .seq<|.ret<|fin_1 (.inr rfl) (.nil _) results12 (.t rfl) (AVle.refl _)
      ·intro h84
       refine .draw mixed<|.p (mv rfl)<|.p (mv rfl)<|?_
       refine TD.gd 68 _ rfl iff_b (fun h85=>?_) (fun h85=>?_)
       ·refine .p (mv rfl)<|.p (pt rfl)<|.p (mv rfl)<|?_
        refine TD.gd 71 _ rfl iff_b (fun h86=>?_) (fun h86=>?_)
        ·refine .p (mv rfl)<|.p (nc rfl)<|.p (fa 0 fl45_0 rfl)<|.bind fun x168 h87=>.p (cl (iv_trouble_Err_k h87) [0] [] [false] rfl (.p rfl<|.nil) (.p rfl (.i<|.i<|.nil) .nil) fnil (.cons (.v (.i<|.i<|.nil)) .nil) (.int _ _) (.kept rfl .nil) rfl)<|.p (mv rfl)<|.p (nc rfl)<|.p (fa 1 fl65_1 rfl)<|.p (ls sc3 rfl)<|.p (ar rfl)<|.p (pt rfl)<|.p (sg rfl)<|.nil (by kernel_rfl)<|.weak (h84 (x168 == y165)) (jn (m:=0) [] hE (.b rfl<|.nil) .nil rfl)
        ·refine .k rfl<|.k rfl<|.k rfl<|.k rfl<|.k rfl<|.k rfl<|.k rfl<|.k rfl<|.k rfl<|.p (pf rfl)<|.p (sg rfl)<|.nil (by kernel_rfl)<|.weak (h84 false) (jn (m:=0) [] hE (.b rfl<|.nil) .nil rfl)
       ·refine .k rfl<|.p (pf rfl)<|.p (mv rfl)<|.k rfl<|.k rfl<|.k rfl<|.k rfl<|.k rfl<|.k rfl<|.k rfl<|.k rfl<|.k rfl<|.p (pf rfl)<|.p (sg rfl)<|?_
        refine .nil (by kernel_rfl)<|.weak (h84 false) (jn (m:=0) [] hE (.b rfl<|.nil) .nil rfl)
     ·intro h88
      refine T.cond_p rfl iff_eq (fun h89 h90=>?_) (fun h89 h90=>?_)
      ·refine .region<|.p (mv rfl)<|.bind fun x169 h91=>.w (cl (konst_Pi_k h91) [0] [] [true] rfl (.p rfl<|.nil) (.p rfl (.i<|.i<|.nil) .nil) fnil (.cons (.v (.i<|.i<|.nil)) .nil) (ren_agg (K:=kI) _) (.turned .nil) rfl)<|.p (mv rfl)<|.bind fun x170 h92=>.w (cl (r08_Pi_k h92) [1] [] [true] rfl (.p rfl<|.nil) (.p rfl (.i<|.i<|.nil) .nil) fnil (.cons (.v (.i<|.i<|.nil)) .nil) (ren_agg (K:=kI) _) (.turned .nil) rfl)<|.bind fun x171 h93=>.p (c0 (l08_same_p h93) rfl)<|.p (sg rfl)<|.nil<|.weak (h88 (x171,x169.2,x170.2)) (jn (m:=0) [(0,0),(1,1)] hE (.b rfl<|.p rfl rfl<|.p rfl rfl<|.b rfl<|.nil) (.v rfl (.i<|.i<|.nil)<|.v rfl (.i<|.i<|.nil)<|.nil) rfl)
      ·refine .seq<|.region<|.p (ar rfl)<|.p (sg rfl)<|.nil<|.seq<|?_
       refine T.cut (X:=Bool × Int × Int) (fun x=>l08_KonstTold_j7 x94 x97 x.1 x.2.1 x.2.2) (fun x=>(mkS [(5,some (.bool x94)),(6,some (.ptr 0 0)),(8,some (.ptr 1 0)),(9,some (.bool x.1))] [(0,(.live 45 [(.int .i64 x.2.1),(.int .i64 x97.2.2)])),(1,(.live 65 [(.int .i64 x104.1),(.int .i64 x.2.2)]))])) ?_ ?_
       ·rintro ⟨y178,y179,y180⟩
        dsimp only [l08_KonstTold_j7]
        exact TQ.weak (h88 (y178,y179,y180)) (jn (m:=0) [(0,0),(1,1)] hE (.b rfl<|.p rfl rfl<|.p rfl rfl<|.b rfl<|.nil) (.v rfl (.i<|.i<|.nil)<|.v rfl (.i<|.i<|.nil)<|.nil) rfl)
       ·intro h102
        refine T.cond_p rfl iff_eq (fun h103 h104=>?_) (fun h103 h104=>?_)
        ·refine .region<|.p (mv rfl)<|.bind fun x181 h105=>.w (cl (konst_Ln2_k h105) [0] [] [true] rfl (.p rfl<|.nil) (.p rfl (.i<|.i<|.nil) .nil) fnil (.cons (.v (.i<|.i<|.nil)) .nil) (ren_agg (K:=kI) _) (.turned .nil) rfl)<|.p (mv rfl)<|.bind fun x182 h106=>.w (cl (r08_Ln2_k h106) [1] [] [true] rfl (.p rfl<|.nil) (.p rfl (.i<|.i<|.nil) .nil) fnil (.cons (.v (.i<|.i<|.nil)) .nil) (ren_agg (K:=kI) _) (.turned .nil) rfl)<|.bind fun x183 h107=>.p (c0 (l08_same_p h107) rfl)<|.p (sg rfl)<|.nil<|.weak (h102 (x183,x181.2,x182.2)) (jn (m:=0) [(0,0),(1,1)] hE (.b rfl<|.p rfl rfl<|.p rfl rfl<|.b rfl<|.nil) (.v rfl (.i<|.i<|.nil)<|.v rfl (.i<|.i<|.nil)<|.nil) rfl)
        ·refine .region<|.p (mv rfl)<|.bind fun x184 h108=>.w (cl (konst_Root_k h108) [0] [] [true] rfl (.p rfl<|.nil) (.p rfl (.i<|.i<|.nil) .nil) fnil (.cons (.v (.i<|.i<|.nil)) .nil) (ren_agg (K:=kI) _) (.turned .nil) rfl)<|.p (mv rfl)<|.bind fun x185 h109=>.w (cl (r08_Root_k h109) [1] [] [true] rfl (.p rfl<|.nil) (.p rfl (.i<|.i<|.nil) .nil) fnil (.cons (.v (.i<|.i<|.nil)) .nil) (ren_agg (K:=kI) _) (.turned .nil) rfl)<|.bind fun x186 h110=>.p (c0 (l08_same_p h110) rfl)<|.p (sg rfl)<|.nil<|.weak (h102 (x186,x184.2,x185.2)) (jn (m:=0) [(0,0),(1,1)] hE (.b rfl<|.p rfl rfl<|.p rfl rfl<|.b rfl<|.nil) (.v rfl (.i<|.i<|.nil)<|.v rfl (.i<|.i<|.nil)<|.nil) rfl)
    ·intro h111
     refine T.cond_p rfl iff_dec (fun h112 h113=>?_) (fun h112 h113=>?_)
     ·refine .region<|.p (mv rfl)<|.p (ar rfl)<|.p (un rfl)<|.p (sg rfl)<|.nil<|.weak (h111 (IntKind.i64.wrap (0-(IntKind.i64.wrap (a1+1))))) (jn (m:=0) [(0,0),(1,1)] hE (.i rfl<|.b rfl<|.p rfl rfl<|.p rfl rfl<|.nil) (.v rfl (.i<|.i<|.nil)<|.v rfl (.i<|.i<|.nil)<|.nil) rfl)
     ·refine .skip<|.weak (h111 a1) (jn (m:=0) [(0,0),(1,1)] hE (.i rfl<|.b rfl<|.p rfl rfl<|.p rfl rfl<|.nil) (.v rfl (.i<|.i<|.nil)<|.v rfl (.i<|.i<|.nil)<|.nil) rfl)
theorem l08_KonstTold_p {a0:Int} {a1:Int} {r:Bool} (h:l08_KonstTold a0 a1=some r):Pur Tryz.prog 12 [(.int .i64 a0),(.int .i64 a1)] (.bool r):=⟨⟨_,func12,nm12,rfl⟩,l08_KonstTold_c a0 a1 _ h,fun _=>(.i<|.i<|.nil),fun _=>(.bool _)⟩
end Go.Proofs.YtpmpcohbpankaaaGreat.Gen
