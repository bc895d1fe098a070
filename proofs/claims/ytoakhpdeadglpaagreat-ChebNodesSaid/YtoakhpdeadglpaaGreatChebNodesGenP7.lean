/- Printed by geng.py: a call does what the plain function says. -/
import Derived.Test.YtoakhpdeadglpaaGreatChebNodesGenP6
set_option linter.unusedVariables false
set_option linter.unusedSimpArgs false
set_option maxRecDepth 4000
set_option synthInstance.maxSize 4000
set_option synthInstance.maxHeartbeats 400000
namespace Go.Proofs.YtoakhpdeadglpaaGreat.Gen
open Go Go.Abs Go.Proofs Go.Proofs.Tryz
instance r06_CAdd_i (a0:AI) (a1:AI) (a2:Int) (a3:Int):CC (r06_CAdd a0 a1 a2 a3) Tryz.prog 214 [(.ptr 0 0),(.agg (kI.enc a0)),(.agg (kI.enc a1))] [(.live 141 [(.int .i64 a2),(.int .i64 a3)])] (fun r=>(.agg (kI.enc (⟨⟨(((r.1).Lo).M),((r.1).Lo).E⟩,⟨(((r.1).Hi).M),((r.1).Hi).E⟩⟩:AI)))) (fun r=>[(.live 141 [(.int .i64 a2),(.int .i64 r.2)])]):=cc func214 (by kernel_rfl) rfl fun E=>by
 unfold r06_CAdd
 refine .g 13 rfl<|.st rfl (bs kI [a0,a1] rfl rfl) rfl<|.bind fun x7 h1=>.st rfl (cl (CC.h h1) [0] [] [true] rfl (.p rfl<|.l<|.nil) (.p rfl (.i<|.i<|.nil) .nil) fnil (.cons (.v (.i<|.i<|.nil)) .nil) (.bool _) (.turned .nil) rfl) rfl<|.g 3 rfl<|?_
 refine .cd rfl (fun _ _=>?_) fun _ _=>?_
 ·refine .g 8 rfl<|.fi rfl rfl
 ·refine .g 10 rfl<|.bind fun x8 h4=>.st rfl (cl (CC.h h4) [0] [] [true] rfl (.p rfl<|.a kD<|.a kD<|.nil) (.p rfl (.i<|.i<|.nil) .nil) fnil (.cons (.v (.i<|.i<|.nil)) .nil) (ren_agg (K:=kD) _) (.turned .nil) rfl) rfl<|.bind fun x9 h5=>.st rfl (cl (CC.h h5) [0] [] [true] rfl (.p rfl<|.a kD<|.b<|.nil) (.p rfl (.i<|.i<|.nil) .nil) fnil (.cons (.v (.i<|.i<|.nil)) .nil) (ren_agg (K:=kD) _) (.turned .nil) rfl) rfl<|.g 12 rfl<|.bind fun x10 h6=>.st rfl (cl (CC.h h6) [0] [] [true] rfl (.p rfl<|.a kD<|.a kD<|.nil) (.p rfl (.i<|.i<|.nil) .nil) fnil (.cons (.v (.i<|.i<|.nil)) .nil) (ren_agg (K:=kD) _) (.turned .nil) rfl) rfl<|.bind fun x11 h7=>.st rfl (cl (CC.h h7) [0] [] [true] rfl (.p rfl<|.a kD<|.b<|.nil) (.p rfl (.i<|.i<|.nil) .nil) fnil (.cons (.v (.i<|.i<|.nil)) .nil) (ren_agg (K:=kD) _) (.turned .nil) rfl) rfl<|.g 9 rfl<|.bind fun x12 h8=>.st rfl (cl (CC.h h8) [0] [] [false] rfl (.p rfl<|.a kD<|.a kD<|.nil) (.p rfl (.i<|.i<|.nil) .nil) fnil (.cons (.v (.i<|.i<|.nil)) .nil) (ren_agg (K:=kI) _) (.kept rfl .nil) rfl) rfl<|.g 4 rfl<|.fi rfl rfl
instance r06_CWide_i (a0:AI) (a1:AD) (a2:Int) (a3:Int):CC (r06_CWide a0 a1 a2 a3) Tryz.prog 262 [(.ptr 0 0),(.agg (kI.enc a0)),(.agg (kD.enc a1))] [(.live 141 [(.int .i64 a2),(.int .i64 a3)])] (fun r=>(.agg (kI.enc (⟨⟨(((r.1).Lo).M),((r.1).Lo).E⟩,⟨(((r.1).Hi).M),((r.1).Hi).E⟩⟩:AI)))) (fun r=>[(.live 141 [(.int .i64 a2),(.int .i64 r.2)])]):=cc func262 (by kernel_rfl) rfl fun E=>by
 unfold r06_CWide
 refine .g 15 rfl<|.st rfl (bs kI [a0,(⟨⟨⟨false,[]⟩,0⟩,a1⟩:AI)] rfl rfl) rfl<|.bind fun x8 h1=>.st rfl (cl (CC.h h1) [0] [] [true] rfl (.p rfl<|.l<|.nil) (.p rfl (.i<|.i<|.nil) .nil) fnil (.cons (.v (.i<|.i<|.nil)) .nil) (.bool _) (.turned .nil) rfl) rfl<|.g 3 rfl<|?_
 refine .cd rfl (fun _ _=>?_) fun _ _=>?_
 ·refine .g 8 rfl<|.fi rfl rfl
 ·refine .g 9 rfl<|.p0 rfl rfl fun x9 _=>.bind fun x10 h5=>.st rfl (cl (CC.h h5) [0] [] [true] rfl (.p rfl<|.a kD<|.a kD<|.nil) (.p rfl (.i<|.i<|.nil) .nil) fnil (.cons (.v (.i<|.i<|.nil)) .nil) (ren_agg (K:=kD) _) (.turned .nil) rfl) rfl<|.bind fun x11 h6=>.st rfl (cl (CC.h h6) [0] [] [true] rfl (.p rfl<|.a kD<|.b<|.nil) (.p rfl (.i<|.i<|.nil) .nil) fnil (.cons (.v (.i<|.i<|.nil)) .nil) (ren_agg (K:=kD) _) (.turned .nil) rfl) rfl<|.g 2 rfl<|.dn (by kernel_rfl)<|.g 8 rfl<|.bind fun x12 h7=>.st rfl (cl (CC.h h7) [0] [] [true] rfl (.p rfl<|.a kD<|.a kD<|.nil) (.p rfl (.i<|.i<|.nil) .nil) fnil (.cons (.v (.i<|.i<|.nil)) .nil) (ren_agg (K:=kD) _) (.turned .nil) rfl) rfl<|.bind fun x13 h8=>.st rfl (cl (CC.h h8) [0] [] [true] rfl (.p rfl<|.a kD<|.b<|.nil) (.p rfl (.i<|.i<|.nil) .nil) fnil (.cons (.v (.i<|.i<|.nil)) .nil) (ren_agg (K:=kD) _) (.turned .nil) rfl) rfl<|.g 9 rfl<|?_
  refine .bind fun x14 h9=>.st rfl (cl (CC.h h9) [0] [] [false] rfl (.p rfl<|.a kD<|.a kD<|.nil) (.p rfl (.i<|.i<|.nil) .nil) fnil (.cons (.v (.i<|.i<|.nil)) .nil) (ren_agg (K:=kI) _) (.kept rfl .nil) rfl) rfl<|.g 4 rfl<|.fi rfl rfl
instance r07_ends_i (a0:AI) (a1:Int) (a2:Int):CC (r07_ends a0 a1 a2) Tryz.prog 289 [(.ptr 0 0),(.agg (kI.enc a0))] [(.live 141 [(.int .i64 a1),(.int .i64 a2)])] (fun r=>(.agg (kI.enc (⟨⟨(((r.1).Lo).M),((r.1).Lo).E⟩,⟨(((r.1).Hi).M),((r.1).Hi).E⟩⟩:AI)))) (fun r=>[(.live 141 [(.int .i64 a1),(.int .i64 r.2)])]):=cc func289 (by kernel_rfl) rfl fun E=>by
 unfold r07_ends
 refine .g 15 rfl<|.p0 rfl rfl fun x3 _=>.bind fun x4 h2=>.st rfl (cl (CC.h h2) [0] [] [true] rfl (.p rfl<|.a kI<|.a kD<|.nil) (.p rfl (.i<|.i<|.nil) .nil) fnil (.cons (.v (.i<|.i<|.nil)) .nil) (ren_agg (K:=kI) _) (.turned .nil) rfl) rfl<|.g 1 rfl<|.dn (by kernel_rfl)<|.g 2 rfl<|.fi rfl rfl
instance r07_Atan_i (a0:AI) (a1:Int) (a2:Int):CC (r07_Atan a0 a1 a2) Tryz.prog 204 [(.ptr 0 0),(.agg (kI.enc a0))] [(.live 141 [(.int .i64 a1),(.int .i64 a2)])] (fun r=>(.agg (kI.enc (⟨⟨(((r.1).Lo).M),((r.1).Lo).E⟩,⟨(((r.1).Hi).M),((r.1).Hi).E⟩⟩:AI)))) (fun r=>[(.live 141 [(.int .i64 a1),(.int .i64 r.2)])]):=cc func204 (by kernel_rfl) rfl fun E=>by
 unfold r07_Atan
 refine .g 11 rfl<|.bind fun x133 h1=>.st rfl (cl (CC.h h1) [0] [] [true] rfl (.p rfl<|.a kI<|.i<|.nil) (.p rfl (.i<|.i<|.nil) .nil) fnil (.cons (.v (.i<|.i<|.nil)) .nil) (.bool _) (.turned .nil) rfl) rfl<|.g 3 rfl<|?_
 refine .cd rfl (fun _ _=>?_) fun _ _=>?_
 ·refine .g 8 rfl<|.fi rfl rfl
 ·refine .g 7 rfl<|.bind fun x134 h4=>.st rfl (cl (CC.h h4) [0] [] [true] rfl (.p rfl<|.a kI<|.a kI<|.nil) (.p rfl (.i<|.i<|.nil) .nil) fnil (.cons (.v (.i<|.i<|.nil)) .nil) (ren_agg (K:=kI) _) (.turned .nil) rfl) rfl<|.g 24 rfl<|?_
  refine .cut (fun x:Int × Bool × (List Int) × Int × Bool × (List Int) × Int=>(r07_Atan_j1 a1 x.1 x.2.1 x.2.2.1 x.2.2.2.1 x.2.2.2.2.1 x.2.2.2.2.2.1 x.2.2.2.2.2.2,[eP 0 0,eP 4 2,eP 6 4],[(0,(.live 141 [(.int .i64 a1),(.int .i64 x.1)])),(2,(.live 30 [(.bool false),(slK (kInt .u32) []),(.int .i64 0),(.bool false),(slK (kInt .u32) []),(.int .i64 0)])),(4,(.live 30 [(.bool x.2.1),(slK (kInt .u32) x.2.2.1),(.int .i64 x.2.2.2.1),(.bool x.2.2.2.2.1),(slK (kInt .u32) x.2.2.2.2.2.1),(.int .i64 x.2.2.2.2.2.2)]))])) ?_ ?_
  ·rintro ⟨y196,y197,y198,y199,y200,y201,y202⟩
   dsimp only [r07_Atan_j1]
   refine .g 5 rfl<|.bind fun x203 h44=>.st rfl (cl (CC.h h44) [0] [] [true] rfl (.p rfl<|.a kI<|.nil) (.p rfl (.i<|.i<|.nil) .nil) fnil (.cons (.v (.i<|.i<|.nil)) .nil) (ren_agg (K:=kI) _) (.turned .nil) rfl) rfl<|.g 4 rfl<|.fi rfl rfl
  ·intro h45
   refine .g 1 rfl<|?_
   refine .lp (fun n (x:Int × Int × Bool × (List Int) × Int × Bool × (List Int) × Int × Bool × (List Int) × Int × Bool × (List Int) × Int)=>r07_Atan_l2 a1 x134 n x.1 x.2.1 x.2.2.1 x.2.2.2.1 x.2.2.2.2.1 x.2.2.2.2.2.1 x.2.2.2.2.2.2.1 x.2.2.2.2.2.2.2.1 x.2.2.2.2.2.2.2.2.1 x.2.2.2.2.2.2.2.2.2.1 x.2.2.2.2.2.2.2.2.2.2.1 x.2.2.2.2.2.2.2.2.2.2.2.1 x.2.2.2.2.2.2.2.2.2.2.2.2.1 x.2.2.2.2.2.2.2.2.2.2.2.2.2) (fun x=>([eP 0 0,eP 4 2,eP 5 3,eP 6 4,eP 7 5,eI 8 x.1],[(0,(.live 141 [(.int .i64 a1),(.int .i64 x.2.1)])),(2,(.live 30 [(.bool false),(slK (kInt .u32) []),(.int .i64 0),(.bool false),(slK (kInt .u32) []),(.int .i64 0)])),(3,(.live 30 [(.bool ((((x134.1).Lo).M).Neg)),(slK (kInt .u32) ((((x134.1).Lo).M).Mag)),(.int .i64 (((x134.1).Lo).E)),(.bool ((((x134.1).Hi).M).Neg)),(slK (kInt .u32) ((((x134.1).Hi).M).Mag)),(.int .i64 (((x134.1).Hi).E))])),(4,(.live 30 [(.bool x.2.2.1),(slK (kInt .u32) x.2.2.2.1),(.int .i64 x.2.2.2.2.1),(.bool x.2.2.2.2.2.1),(slK (kInt .u32) x.2.2.2.2.2.2.1),(.int .i64 x.2.2.2.2.2.2.2.1)])),(5,(.live 30 [(.bool x.2.2.2.2.2.2.2.2.1),(slK (kInt .u32) x.2.2.2.2.2.2.2.2.2.1),(.int .i64 x.2.2.2.2.2.2.2.2.2.2.1),(.bool x.2.2.2.2.2.2.2.2.2.2.2.1),(slK (kInt .u32) x.2.2.2.2.2.2.2.2.2.2.2.2.1),(.int .i64 x.2.2.2.2.2.2.2.2.2.2.2.2.2)]))])) (1,x134.2,a0.Lo.M.Neg,a0.Lo.M.Mag,a0.Lo.E,a0.Hi.M.Neg,a0.Hi.M.Mag,a0.Hi.E,a0.Lo.M.Neg,a0.Lo.M.Mag,a0.Lo.E,a0.Hi.M.Neg,a0.Hi.M.Mag,a0.Hi.E) [(0,0),(2,2),(3,3),(4,4),(5,5)] rfl ?_
   rintro n2 ⟨y240,y241,y242,y243,y244,y245,y246,y247,y248,y249,y250,y251,y252,y253⟩
   try dsimp only
   rw [r07_Atan_l2]
   refine .g 8 rfl<|.p0 rfl rfl fun x254 _=>.g 3 rfl<|?_
   refine .cd rfl (fun _ _=>?_) fun _ _=>?_
   ·refine .g 10 rfl<|.bind fun x260 h80=>.st rfl (cl (CC.h h80) [0] [] [true] rfl (.p rfl<|.a kI<|.a kI<|.nil) (.p rfl (.i<|.i<|.nil) .nil) fnil (.cons (.v (.i<|.i<|.nil)) .nil) (ren_agg (K:=kI) _) (.turned .nil) rfl) rfl<|.bind fun x261 h81=>.st rfl (cl (CC.h h81) [0] [] [true] rfl (.p rfl<|.a kI<|.nil) (.p rfl (.i<|.i<|.nil) .nil) fnil (.cons (.v (.i<|.i<|.nil)) .nil) (ren_agg (K:=kI) _) (.turned .nil) rfl) rfl<|.g 12 rfl<|.bind fun x262 h82=>.st rfl (cl (CC.h h82) [0] [] [true] rfl (.p rfl<|.i<|.nil) (.p rfl (.i<|.i<|.nil) .nil) fnil (.cons (.v (.i<|.i<|.nil)) .nil) (ren_agg (K:=kI) _) (.turned .nil) rfl) rfl<|.bind fun x263 h83=>.st rfl (cl (CC.h h83) [0] [] [true] rfl (.p rfl<|.a kI<|.a kI<|.nil) (.p rfl (.i<|.i<|.nil) .nil) fnil (.cons (.v (.i<|.i<|.nil)) .nil) (ren_agg (K:=kI) _) (.turned .nil) rfl) rfl<|.bind fun x264 h84=>.st rfl (cl (CC.h h84) [0] [] [true] rfl (.p rfl<|.a kI<|.a kI<|.nil) (.p rfl (.i<|.i<|.nil) .nil) fnil (.cons (.v (.i<|.i<|.nil)) .nil) (ren_agg (K:=kI) _) (.turned .nil) rfl) rfl<|.g 1 rfl<|.dn (by kernel_rfl)<|?_
    refine .g 7 rfl<|.ag ((IntKind.i64.wrap (y240+1)),x264.2,(((x264.1).Lo).M).Neg,(((x264.1).Lo).M).Mag,((x264.1).Lo).E,(((x264.1).Hi).M).Neg,(((x264.1).Hi).M).Mag,((x264.1).Hi).E,(((x261.1).Lo).M).Neg,(((x261.1).Lo).M).Mag,((x261.1).Lo).E,(((x261.1).Hi).M).Neg,(((x261.1).Hi).M).Mag,((x261.1).Hi).E) [(0,0),(2,2),(3,3),(4,4),(5,5)] rfl
   ·refine .g 4 rfl<|.jw (h45 (y241,y242,y243,y244,y245,y246,y247)) [(0,0),(2,2),(4,4)] rfl
instance r05_Scale_i (a0:AD) (a1:Int):PC (r05_Scale a0 a1) Tryz.prog 196 [(.agg (kD.enc a0)),(.int .i64 a1)] (fun r=>(.tup [(.agg (kD.enc (⟨((r.1).M),(r.1).E⟩:AD))),(.int .i64 r.2)])):=pc func196 (by kernel_rfl) rfl fun E=>by
 unfold r05_Scale
 refine .g 10 rfl<|.p0 rfl rfl fun x4 _=>.g 10 rfl<|?_
 refine .cd rfl (fun _ _=>?_) fun _ _=>?_
 ·refine .g 9 rfl<|.fi rfl rfl
 ·refine .g 4 rfl<|?_
  refine .cut (fun x:Bool=>(r05_Scale_j1 a0 a1 x,[eI 1 a1,eP 2 0,eP 4 1,eB 17 x],[(0,(.live 26 [(.bool a0.M.Neg),(slK (kInt .u32) a0.M.Mag),(.int .i64 a0.E)])),(1,(.live 26 [(.bool false),(slK (kInt .u32) []),(.int .i64 0)]))])) ?_ ?_
  ·rintro y5
   dsimp only [r05_Scale_j1]
   refine .g 1 rfl<|?_
   refine .cd rfl (fun _ _=>?_) fun _ _=>?_
   ·refine .g 9 rfl<|.fi rfl rfl
   ·refine .g 8 rfl<|.ln rfl rfl<|.g 3 rfl<|?_
    refine .cd rfl (fun _ _=>?_) fun _ _=>?_
    ·refine .g 9 rfl<|.fi rfl rfl
    ·refine .g 11 rfl<|.p0 rfl rfl fun x6 _=>.g 7 rfl<|.fi rfl rfl
  ·intro h10
   refine .g 4 rfl<|?_
   refine .gd 14 rfl (fun _=>?_) fun _=>?_
   ·refine .g 4 rfl<|.jw (h10 true) [(0,0),(1,1)] rfl
   ·refine .g 4 rfl<|.jw (h10 (decide (a1>100000))) [(0,0),(1,1)] rfl
instance r06_CScale_i (a0:AI) (a1:Int) (a2:Int) (a3:Int):CC (r06_CScale a0 a1 a2 a3) Tryz.prog 206 [(.ptr 0 0),(.agg (kI.enc a0)),(.int .i64 a1)] [(.live 141 [(.int .i64 a2),(.int .i64 a3)])] (fun r=>(.agg (kI.enc (⟨⟨(((r.1).Lo).M),((r.1).Lo).E⟩,⟨(((r.1).Hi).M),((r.1).Hi).E⟩⟩:AI)))) (fun r=>[(.live 141 [(.int .i64 a2),(.int .i64 r.2)])]):=cc func206 (by kernel_rfl) rfl fun E=>by
 unfold r06_CScale
 refine .g 11 rfl<|.st rfl (bs kI [a0] rfl rfl) rfl<|.bind fun x7 h1=>.st rfl (cl (CC.h h1) [0] [] [true] rfl (.p rfl<|.l<|.nil) (.p rfl (.i<|.i<|.nil) .nil) fnil (.cons (.v (.i<|.i<|.nil)) .nil) (.bool _) (.turned .nil) rfl) rfl<|.g 3 rfl<|?_
 refine .cd rfl (fun _ _=>?_) fun _ _=>?_
 ·refine .g 8 rfl<|.fi rfl rfl
 ·refine .g 7 rfl<|.p0 rfl rfl fun x8 _=>.g 13 rfl<|.bind fun x9 h5=>.st rfl (cl (CC.h h5) [0] [] [true] rfl (.p rfl<|.i<|.nil) (.p rfl (.i<|.i<|.nil) .nil) fnil (.cons (.v (.i<|.i<|.nil)) .nil) (.bool _) (.turned .nil) rfl) rfl<|.g 3 rfl<|?_
  refine .cd rfl (fun _ _=>?_) fun _ _=>?_
  ·refine .g 8 rfl<|.fi rfl rfl
  ·refine .g 7 rfl<|.p0 rfl rfl fun x10 _=>.g 12 rfl<|.bind fun x11 h9=>.st rfl (cl (CC.h h9) [0] [] [true] rfl (.p rfl<|.i<|.nil) (.p rfl (.i<|.i<|.nil) .nil) fnil (.cons (.v (.i<|.i<|.nil)) .nil) (.bool _) (.turned .nil) rfl) rfl<|.g 7 rfl<|.bind fun x12 h10=>.st rfl (cl (CC.h h10) [0] [] [false] rfl (.p rfl<|.a kD<|.a kD<|.nil) (.p rfl (.i<|.i<|.nil) .nil) fnil (.cons (.v (.i<|.i<|.nil)) .nil) (ren_agg (K:=kI) _) (.kept rfl .nil) rfl) rfl<|.g 4 rfl<|.fi rfl rfl
instance r06_CSub_i (a0:AI) (a1:AI) (a2:Int) (a3:Int):CC (r06_CSub a0 a1 a2 a3) Tryz.prog 205 [(.ptr 0 0),(.agg (kI.enc a0)),(.agg (kI.enc a1))] [(.live 141 [(.int .i64 a2),(.int .i64 a3)])] (fun r=>(.agg (kI.enc (⟨⟨(((r.1).Lo).M),((r.1).Lo).E⟩,⟨(((r.1).Hi).M),((r.1).Hi).E⟩⟩:AI)))) (fun r=>[(.live 141 [(.int .i64 a2),(.int .i64 r.2)])]):=cc func205 (by kernel_rfl) rfl fun E=>by
 unfold r06_CSub
 refine .g 13 rfl<|.st rfl (bs kI [a0,a1] rfl rfl) rfl<|.bind fun x4 h1=>.st rfl (cl (CC.h h1) [0] [] [true] rfl (.p rfl<|.l<|.nil) (.p rfl (.i<|.i<|.nil) .nil) fnil (.cons (.v (.i<|.i<|.nil)) .nil) (.bool _) (.turned .nil) rfl) rfl<|.g 3 rfl<|?_
 refine .cd rfl (fun _ _=>?_) fun _ _=>?_
 ·refine .g 8 rfl<|.fi rfl rfl
 ·refine .g 8 rfl<|.bind fun x5 h4=>.st rfl (cl (CC.h h4) [0] [] [true] rfl (.p rfl<|.a kI<|.nil) (.p rfl (.i<|.i<|.nil) .nil) fnil (.cons (.v (.i<|.i<|.nil)) .nil) (ren_agg (K:=kI) _) (.turned .nil) rfl) rfl<|.bind fun x6 h5=>.st rfl (cl (CC.h h5) [0] [] [true] rfl (.p rfl<|.a kI<|.a kI<|.nil) (.p rfl (.i<|.i<|.nil) .nil) fnil (.cons (.v (.i<|.i<|.nil)) .nil) (ren_agg (K:=kI) _) (.turned .nil) rfl) rfl<|.g 1 rfl<|.dn (by kernel_rfl)<|.g 2 rfl<|.fi rfl rfl
instance r08_Pi_i (a0:Int) (a1:Int):CC (r08_Pi a0 a1) Tryz.prog 106 [(.ptr 0 0)] [(.live 141 [(.int .i64 a0),(.int .i64 a1)])] (fun r=>(.agg (kI.enc (⟨⟨(((r.1).Lo).M),((r.1).Lo).E⟩,⟨(((r.1).Hi).M),((r.1).Hi).E⟩⟩:AI)))) (fun r=>[(.live 141 [(.int .i64 a0),(.int .i64 r.2)])]):=cc func106 (by kernel_rfl) rfl fun E=>by
 unfold r08_Pi
 refine .g 10 rfl<|.bind fun x12 h1=>.st rfl (cl (CC.h h1) [0] [] [true] rfl (.p rfl<|.i<|.nil) (.p rfl (.i<|.i<|.nil) .nil) fnil (.cons (.v (.i<|.i<|.nil)) .nil) (ren_agg (K:=kI) _) (.turned .nil) rfl) rfl<|.g 1 rfl<|.bind fun x13 h2=>.st rfl (cl (CC.h h2) [0] [] [true] rfl (.p rfl<|.i<|.nil) (.p rfl (.i<|.i<|.nil) .nil) fnil (.cons (.v (.i<|.i<|.nil)) .nil) (ren_agg (K:=kI) _) (.turned .nil) rfl) rfl<|.bind fun x14 h3=>.st rfl (cl (CC.h h3) [0] [] [true] rfl (.p rfl<|.a kI<|.a kI<|.nil) (.p rfl (.i<|.i<|.nil) .nil) fnil (.cons (.v (.i<|.i<|.nil)) .nil) (ren_agg (K:=kI) _) (.turned .nil) rfl) rfl<|.bind fun x15 h4=>.st rfl (cl (CC.h h4) [0] [] [true] rfl (.p rfl<|.a kI<|.nil) (.p rfl (.i<|.i<|.nil) .nil) fnil (.cons (.v (.i<|.i<|.nil)) .nil) (ren_agg (K:=kI) _) (.turned .nil) rfl) rfl<|.g 9 rfl<|.bind fun x16 h5=>.st rfl (cl (CC.h h5) [0] [] [true] rfl (.p rfl<|.i<|.nil) (.p rfl (.i<|.i<|.nil) .nil) fnil (.cons (.v (.i<|.i<|.nil)) .nil) (ren_agg (K:=kI) _) (.turned .nil) rfl) rfl<|.g 1 rfl<|?_
 refine .bind fun x17 h6=>.st rfl (cl (CC.h h6) [0] [] [true] rfl (.p rfl<|.i<|.nil) (.p rfl (.i<|.i<|.nil) .nil) fnil (.cons (.v (.i<|.i<|.nil)) .nil) (ren_agg (K:=kI) _) (.turned .nil) rfl) rfl<|.bind fun x18 h7=>.st rfl (cl (CC.h h7) [0] [] [true] rfl (.p rfl<|.a kI<|.a kI<|.nil) (.p rfl (.i<|.i<|.nil) .nil) fnil (.cons (.v (.i<|.i<|.nil)) .nil) (ren_agg (K:=kI) _) (.turned .nil) rfl) rfl<|.bind fun x19 h8=>.st rfl (cl (CC.h h8) [0] [] [true] rfl (.p rfl<|.a kI<|.nil) (.p rfl (.i<|.i<|.nil) .nil) fnil (.cons (.v (.i<|.i<|.nil)) .nil) (ren_agg (K:=kI) _) (.turned .nil) rfl) rfl<|.g 9 rfl<|.bind fun x20 h9=>.st rfl (cl (CC.h h9) [0] [] [true] rfl (.p rfl<|.a kI<|.i<|.nil) (.p rfl (.i<|.i<|.nil) .nil) fnil (.cons (.v (.i<|.i<|.nil)) .nil) (ren_agg (K:=kI) _) (.turned .nil) rfl) rfl<|.g 2 rfl<|.bind fun x21 h10=>.st rfl (cl (CC.h h10) [0] [] [true] rfl (.p rfl<|.a kI<|.i<|.nil) (.p rfl (.i<|.i<|.nil) .nil) fnil (.cons (.v (.i<|.i<|.nil)) .nil) (ren_agg (K:=kI) _) (.turned .nil) rfl) rfl<|.bind fun x22 h11=>.st rfl (cl (CC.h h11) [0] [] [true] rfl (.p rfl<|.a kI<|.a kI<|.nil) (.p rfl (.i<|.i<|.nil) .nil) fnil (.cons (.v (.i<|.i<|.nil)) .nil) (ren_agg (K:=kI) _) (.turned .nil) rfl) rfl<|?_
 refine .g 1 rfl<|.dn (by kernel_rfl)<|.g 2 rfl<|.fi rfl rfl
instance r06_CMid_i (a0:AI) (a1:Int) (a2:Int):CC (r06_CMid a0 a1 a2) Tryz.prog 103 [(.ptr 0 0),(.agg (kI.enc a0))] [(.live 141 [(.int .i64 a1),(.int .i64 a2)])] (fun r=>(.agg (kD.enc (⟨((r.1).M),(r.1).E⟩:AD)))) (fun r=>[(.live 141 [(.int .i64 a1),(.int .i64 r.2)])]):=cc func103 (by kernel_rfl) rfl fun E=>by
 unfold r06_CMid
 refine .g 11 rfl<|.st rfl (bs kI [a0] rfl rfl) rfl<|.bind fun x6 h1=>.st rfl (cl (CC.h h1) [0] [] [true] rfl (.p rfl<|.l<|.nil) (.p rfl (.i<|.i<|.nil) .nil) fnil (.cons (.v (.i<|.i<|.nil)) .nil) (.bool _) (.turned .nil) rfl) rfl<|.g 3 rfl<|?_
 refine .cd rfl (fun _ _=>?_) fun _ _=>?_
 ·refine .g 8 rfl<|.fi rfl rfl
 ·refine .g 9 rfl<|.bind fun x7 h4=>.st rfl (cl (CC.h h4) [0] [] [true] rfl (.p rfl<|.a kD<|.a kD<|.nil) (.p rfl (.i<|.i<|.nil) .nil) fnil (.cons (.v (.i<|.i<|.nil)) .nil) (ren_agg (K:=kD) _) (.turned .nil) rfl) rfl<|.g 14 rfl<|?_
  refine .cd rfl (fun _ _=>?_) fun _ _=>?_
  ·refine .g 8 rfl<|.fi rfl rfl
  ·refine .g 5 rfl<|.p0 rfl rfl fun x8 _=>.g 12 rfl<|.bind fun x9 h8=>.st rfl (cl (CC.h h8) [0] [] [true] rfl (.p rfl<|.i<|.nil) (.p rfl (.i<|.i<|.nil) .nil) fnil (.cons (.v (.i<|.i<|.nil)) .nil) (.bool _) (.turned .nil) rfl) rfl<|.g 6 rfl<|.bind fun x10 h9=>.st rfl (cl (CC.h h9) [0] [] [true] rfl (.p rfl<|.a kD<|.b<|.nil) (.p rfl (.i<|.i<|.nil) .nil) fnil (.cons (.v (.i<|.i<|.nil)) .nil) (ren_agg (K:=kD) _) (.turned .nil) rfl) rfl<|.g 4 rfl<|.fi rfl rfl
instance r09_Fits_i (a0:AD) (a1:Int):PC (r09_Fits a0 a1) Tryz.prog 246 [(.agg (kD.enc a0)),(.int .i64 a1)] (fun r=>(.bool r)):=pc func246 (by kernel_rfl) rfl fun E=>by
 unfold r09_Fits
 refine .g 9 rfl<|.p0 rfl rfl fun x5 _=>.g 4 rfl<|?_
 refine .cut (fun x:Bool=>(r09_Fits_j1 x,[eB 4 x],[])) ?_ ?_
 ·rintro y7
  dsimp only [r09_Fits_j1]
  refine .g 2 rfl<|.fi rfl rfl
 ·intro h6
  refine .g 3 rfl<|?_
  refine .gd 9 rfl (fun _=>?_) fun _=>?_
  ·refine .g 4 rfl<|?_
   refine .gd 13 rfl (fun _=>?_) fun _=>?_
   ·refine .g 4 rfl<|?_
    refine .gd 17 rfl (fun _=>?_) fun _=>?_
    ·refine .g 3 rfl<|.p0 rfl rfl fun x8 _=>.g 4 rfl<|.jw (h6 (decide (x8≤400))) [] rfl
    ·refine .g 8 rfl<|.jw (h6 false) [] rfl
   ·refine .g 12 rfl<|.jw (h6 false) [] rfl
  ·refine .g 16 rfl<|.jw (h6 false) [] rfl
instance r05_Size_i (a0:AD):PC (r05_Size a0) Tryz.prog 71 [(.agg (kD.enc a0))] (fun r=>(.tup [(.int .i64 r.1),(.bool r.2)])):=pc func71 (by kernel_rfl) rfl fun E=>by
 unfold r05_Size
 refine .g 10 rfl<|.p0 rfl rfl fun x4 _=>.g 5 rfl<|?_
 refine .cut (fun x:Bool=>(r05_Size_j1 a0 x,[eP 1 0,eB 15 x],[(0,(.live 26 [(.bool a0.M.Neg),(slK (kInt .u32) a0.M.Mag),(.int .i64 a0.E)]))])) ?_ ?_
 ·rintro y5
  dsimp only [r05_Size_j1]
  refine .g 1 rfl<|?_
  refine .cd rfl (fun _ _=>?_) fun _ _=>?_
  ·refine .g 8 rfl<|.fi rfl rfl
  ·refine .g 5 rfl<|.p0 rfl rfl fun x6 _=>.g 5 rfl<|.fi rfl rfl
 ·intro h6
  refine .g 4 rfl<|?_
  refine .gd 9 rfl (fun _=>?_) fun _=>?_
  ·refine .g 7 rfl<|.jw (h6 true) [(0,0)] rfl
  ·refine .g 3 rfl<|.ln rfl rfl<|.g 3 rfl<|.jw (h6 ((a0.M.Mag.length:Int) == 0)) [(0,0)] rfl
instance r04_Shift_i (a0:ApiInt) (a1:Int):PC (r04_Shift a0 a1) Tryz.prog 341 [(.agg (kN.enc a0)),(.int .i64 a1)] (fun r=>(.tup [(.agg (kN.enc (r.1))),(.bool r.2)])):=pc func341 (by kernel_rfl) rfl fun E=>by
 unfold r04_Shift
 refine .g 9 rfl<|?_
 refine .cut (fun x:Bool=>(r04_Shift_j1 a0 a1 x,[eI 1 a1,eP 2 0,eP 4 1,eB 17 x],[(0,(.live 24 [(.bool a0.Neg),(slK (kInt .u32) a0.Mag)])),(1,(.live 24 [(.bool false),(slK (kInt .u32) [])]))])) ?_ ?_
 ·rintro y14
  dsimp only [r04_Shift_j1]
  refine .g 1 rfl<|?_
  refine .cd rfl (fun _ _=>?_) fun _ _=>?_
  ·refine .g 9 rfl<|.fi rfl rfl
  ·refine .g 8 rfl<|.p0 rfl rfl fun x15 _=>.g 11 rfl<|?_
   refine .cd rfl (fun _ _=>?_) fun _ _=>?_
   ·refine .g 5 rfl<|.p0 rfl rfl fun x16 _=>.g 12 rfl<|.p0 rfl rfl fun x17 _=>.g 6 rfl<|.fi rfl rfl
   ·refine .g 8 rfl<|.p0 rfl rfl fun x18 _=>.g 8 rfl<|.p0 rfl rfl fun x19 _=>.g 9 rfl<|?_
    refine .cut (fun x:Bool=>(r04_Shift_j2 x18 x15 x,[eP 4 1,eP 6 2,eL 9 x18,eB 57 x],[(1,(.live 24 [(.bool false),(slK (kInt .u32) [])])),(2,(.live 24 [(.bool ((x15).Neg)),(slK (kInt .u32) ((x15).Mag))]))])) ?_ ?_
    ·rintro y21
     dsimp only [r04_Shift_j2]
     refine .g 1 rfl<|?_
     refine .cut (fun x:(List Int)=>(r04_Shift_j3 x15 x,[eP 4 1,eP 6 2,eL 9 x],[(1,(.live 24 [(.bool false),(slK (kInt .u32) [])])),(2,(.live 24 [(.bool ((x15).Neg)),(slK (kInt .u32) ((x15).Mag))]))])) ?_ ?_
     ·rintro y23
      dsimp only [r04_Shift_j3]
      refine .g 6 rfl<|.p0 rfl rfl fun x24 _=>.g 5 rfl<|.fi rfl rfl
     ·intro h17
      refine .cd rfl (fun _ _=>?_) fun _ _=>?_
      ·refine .g 2 rfl<|.st rfl (bs (kInt .u32) [1] rfl rfl) rfl<|.p0 rfl rfl fun x25 _=>.g 2 rfl<|.jw (h17 x25) [(1,1),(2,2)] rfl
      ·refine .g 1 rfl<|.jw (h17 x18) [(1,1),(2,2)] rfl
    ·intro h21
     refine .g 4 rfl<|?_
     refine .gd 51 rfl (fun _=>?_) fun _=>?_
     ·refine .g 3 rfl<|.p0 rfl rfl fun x26 _=>.g 3 rfl<|.jw (h21 (x26 != 0)) [(1,1),(2,2)] rfl
     ·refine .g 7 rfl<|.jw (h21 false) [(1,1),(2,2)] rfl
 ·intro h24
  refine .g 4 rfl<|?_
  refine .gd 14 rfl (fun _=>?_) fun _=>?_
  ·refine .g 4 rfl<|.jw (h24 true) [(0,0),(1,1)] rfl
  ·refine .g 4 rfl<|.jw (h24 (decide (a1>100000))) [(0,0),(1,1)] rfl
instance r05_Floor_i (a0:AD):PC (r05_Floor a0) Tryz.prog 290 [(.agg (kD.enc a0))] (fun r=>(.tup [(.agg (kN.enc (r.1))),(.int .i64 r.2)])):=pc func290 (by kernel_rfl) rfl fun E=>by
 unfold r05_Floor
 refine .g 10 rfl<|.p0 rfl rfl fun x9 _=>.g 10 rfl<|?_
 refine .cd rfl (fun _ _=>?_) fun _ _=>?_
 ·refine .g 9 rfl<|.fi rfl rfl
 ·refine .g 5 rfl<|.p0 rfl rfl fun x10 _=>.g 10 rfl<|?_
  refine .cd rfl (fun _ _=>?_) fun _ _=>?_
  ·refine .g 9 rfl<|.fi rfl rfl
  ·refine .g 10 rfl<|?_
   refine .cd rfl (fun _ _=>?_) fun _ _=>?_
   ·refine .g 6 rfl<|.p0 rfl rfl fun x11 _=>.g 6 rfl<|.fi rfl rfl
   ·refine .g 17 rfl<|.p0 rfl rfl fun x12 _=>.g 18 rfl<|?_
    refine .cut (fun x:Bool × (List Int)=>(r05_Floor_j1 x.1 x.2,[eP 2 1,eP 7 2],[(1,(.live 24 [(.bool false),(slK (kInt .u32) [])])),(2,(.live 24 [(.bool x.1),(slK (kInt .u32) x.2)]))])) ?_ ?_
    ·rintro ⟨y14,y15⟩
     dsimp only [r05_Floor_j1]
     refine .g 9 rfl<|.fi rfl rfl
    ·intro h14
     refine .cd rfl (fun _ _=>?_) fun _ _=>?_
     ·refine .g 6 rfl<|.p0 rfl rfl fun x16 _=>.g 5 rfl<|.jw (h14 ((x16.1).Neg,(x16.1).Mag)) [(1,1),(2,2)] rfl
     ·refine .g 1 rfl<|.jw (h14 ((x12.1).Neg,(x12.1).Mag)) [(1,1),(2,2)] rfl
instance r01_Small_i (a0:List Int):PC (r01_Small a0) Tryz.prog 342 [(slK (kInt .u32) a0)] (fun r=>(.tup [(.int .u64 r.1),(.bool r.2)])):=pc func342 (by kernel_rfl) rfl fun E=>by
 unfold r01_Small
 refine .g 9 rfl<|.p0 rfl rfl fun x4 _=>.g 7 rfl<|.ln rfl rfl<|.g 3 rfl<|?_
 refine .cd rfl (fun _ _=>?_) fun _ _=>?_
 ·refine .g 8 rfl<|.fi rfl rfl
 ·refine .g 5 rfl<|.p0 rfl rfl fun x5 _=>.g 1 rfl<|.p0 rfl rfl fun x6 _=>.g 7 rfl<|.fi rfl rfl
instance r04_Small_i (a0:ApiInt):PC (r04_Small a0) Tryz.prog 291 [(.agg (kN.enc a0))] (fun r=>(.tup [(.int .i64 r.1),(.bool r.2)])):=pc func291 (by kernel_rfl) rfl fun E=>by
 unfold r04_Small
 refine .g 13 rfl<|.p0 rfl rfl fun x5 _=>.g 8 rfl<|.p0 rfl rfl fun x6 _=>.g 10 rfl<|?_
 refine .cut (fun x:Bool=>(r04_Small_j1 x5 x6 x,[eP 4 1,eX 5 x6.1,eB 18 x],[(1,(.live 24 [(.bool ((x5).Neg)),(slK (kInt .u32) ((x5).Mag))]))])) ?_ ?_
 ·rintro y8
  dsimp only [r04_Small_j1]
  refine .g 1 rfl<|?_
  refine .cd rfl (fun _ _=>?_) fun _ _=>?_
  ·refine .g 9 rfl<|.fi rfl rfl
  ·refine .g 8 rfl<|?_
   refine .cd rfl (fun _ _=>?_) fun _ _=>?_
   ·refine .g 11 rfl<|.fi rfl rfl
   ·refine .g 7 rfl<|?_
    refine .cd rfl (fun _ _=>?_) fun _ _=>?_
    ·refine .g 9 rfl<|.fi rfl rfl
    ·refine .g 13 rfl<|.fi rfl rfl
 ·intro h24
  refine .g 4 rfl<|?_
  refine .gd 21 rfl (fun _=>?_) fun _=>?_
  ·refine .g 14 rfl<|.jw (h24 true) [(1,1)] rfl
  ·refine .g 4 rfl<|?_
   refine .gd 25 rfl (fun _=>?_) fun _=>?_
   ·refine .g 10 rfl<|.jw (h24 true) [(1,1)] rfl
   ·refine .g 3 rfl<|?_
    refine .gd 28 rfl (fun _=>?_) fun _=>?_
    ·refine .g 7 rfl<|.jw (h24 (!((x5).Neg))) [(1,1)] rfl
    ·refine .g 7 rfl<|.jw (h24 false) [(1,1)] rfl
instance r10_Turns_i (a0:AD) (a1:Int):PC (r10_Turns a0 a1) Tryz.prog 208 [(.agg (kD.enc a0)),(.int .i64 a1)] (fun r=>(.tup [(.int .i64 r.1),(.agg (kI.enc (⟨⟨(((r.2.1).Lo).M),((r.2.1).Lo).E⟩,⟨(((r.2.1).Hi).M),((r.2.1).Hi).E⟩⟩:AI))),(.int .i64 r.2.2)])):=pc func208 (by kernel_rfl) rfl fun E=>by
 unfold r10_Turns
 refine .g 13 rfl<|.p0 rfl rfl fun x21 _=>.g 3 rfl<|?_
 refine .cd rfl (fun _ _=>?_) fun _ _=>?_
 ·refine .g 10 rfl<|.fi rfl rfl
 ·refine .g 5 rfl<|.p0 rfl rfl fun x22 _=>.g 9 rfl<|?_
  refine .cut (fun x:Bool=>(r10_Turns_j1 a1 a0 x,[eI 1 a1,eP 2 0,eP 5 1,eB 31 x],[(0,(.live 26 [(.bool a0.M.Neg),(slK (kInt .u32) a0.M.Mag),(.int .i64 a0.E)])),(1,(.live 30 [(.bool false),(slK (kInt .u32) []),(.int .i64 0),(.bool false),(slK (kInt .u32) []),(.int .i64 0)]))])) ?_ ?_
  ·rintro y23
   dsimp only [r10_Turns_j1]
   refine .g 1 rfl<|?_
   refine .cd rfl (fun _ _=>?_) fun _ _=>?_
   ·refine .g 10 rfl<|.fi rfl rfl
   ·refine .g 6 rfl<|.bind fun x24 h8=>?_
    rcases x24 with x25 | x26
    ·dsimp only
     refine .st rfl (cl (r06_New_k_0 h8) [] [2] [true] rfl (.i<|.nil) .nil (fresh_cons rfl fnil) (.cons .dead .nil) .nilptr (.turned .nil) rfl) rfl<|.g 7 rfl<|.no
    ·dsimp only
     refine .st rfl (cl (r06_New_k_1 h8) [] [2] [true] rfl (.i<|.nil) .nil (fresh_cons rfl fnil) (.cons (.v (.i<|.i<|.nil)) .nil) (.ptr _ _ _ rfl) (.turned .nil) rfl) rfl<|.g 7 rfl<|.bind fun x27 h9=>.st rfl (cl (CC.h h9) [2] [] [true] rfl (.p rfl<|.nil) (.p rfl (.i<|.i<|.nil) .nil) fnil (.cons (.v (.i<|.i<|.nil)) .nil) (ren_agg (K:=kI) _) (.turned .nil) rfl) rfl<|.bind fun x28 h10=>.st rfl (cl (CC.h h10) [2] [] [true] rfl (.p rfl<|.a kI<|.i<|.nil) (.p rfl (.i<|.i<|.nil) .nil) fnil (.cons (.v (.i<|.i<|.nil)) .nil) (ren_agg (K:=kI) _) (.turned .nil) rfl) rfl<|.g 10 rfl<|.bind fun x29 h11=>.st rfl (cl (CC.h h11) [2] [] [true] rfl (.p rfl<|.a kD<|.nil) (.p rfl (.i<|.i<|.nil) .nil) fnil (.cons (.v (.i<|.i<|.nil)) .nil) (ren_agg (K:=kI) _) (.turned .nil) rfl) rfl<|.g 1 rfl<|.bind fun x30 h12=>.st rfl (cl (CC.h h12) [2] [] [true] rfl (.p rfl<|.a kI<|.a kI<|.nil) (.p rfl (.i<|.i<|.nil) .nil) fnil (.cons (.v (.i<|.i<|.nil)) .nil) (ren_agg (K:=kI) _) (.turned .nil) rfl) rfl<|.g 1 rfl<|.p0 rfl rfl fun x31 _=>?_
     refine .bind fun x32 h14=>.st rfl (cl (CC.h h14) [2] [] [true] rfl (.p rfl<|.a kD<|.nil) (.p rfl (.i<|.i<|.nil) .nil) fnil (.cons (.v (.i<|.i<|.nil)) .nil) (ren_agg (K:=kI) _) (.turned .nil) rfl) rfl<|.bind fun x33 h15=>.st rfl (cl (CC.h h15) [2] [] [true] rfl (.p rfl<|.a kI<|.a kI<|.nil) (.p rfl (.i<|.i<|.nil) .nil) fnil (.cons (.v (.i<|.i<|.nil)) .nil) (ren_agg (K:=kI) _) (.turned .nil) rfl) rfl<|.g 2 rfl<|.dn (by kernel_rfl)<|.g 11 rfl<|?_
     refine .cd rfl (fun _ _=>?_) fun _ _=>?_
     ·refine .g 10 rfl<|.dn (by kernel_rfl)<|.g 3 rfl<|.fi rfl rfl
     ·refine .g 6 rfl<|.p0 rfl rfl fun x34 _=>.g 11 rfl<|.p0 rfl rfl fun x35 _=>.g 9 rfl<|?_
      refine .cut (fun x:Bool=>(r10_Turns_j2 a0 x26 x33 x35 x28 x,[eP 2 0,eP 5 1,eP 9 2,eP 10 3,eI 14 x35.1,eB 77 x],[(0,(.live 26 [(.bool a0.M.Neg),(slK (kInt .u32) a0.M.Mag),(.int .i64 a0.E)])),(1,(.live 30 [(.bool false),(slK (kInt .u32) []),(.int .i64 0),(.bool false),(slK (kInt .u32) []),(.int .i64 0)])),(2,(.live 141 [(.int .i64 x26.1),(.int .i64 x33.2)])),(3,(.live 30 [(.bool ((((x28.1).Lo).M).Neg)),(slK (kInt .u32) ((((x28.1).Lo).M).Mag)),(.int .i64 (((x28.1).Lo).E)),(.bool ((((x28.1).Hi).M).Neg)),(slK (kInt .u32) ((((x28.1).Hi).M).Mag)),(.int .i64 (((x28.1).Hi).E))]))])) ?_ ?_
      ·rintro y36
       dsimp only [r10_Turns_j2]
       refine .g 1 rfl<|?_
       refine .cd rfl (fun _ _=>?_) fun _ _=>?_
       ·refine .g 10 rfl<|.fi rfl rfl
       ·refine .g 7 rfl<|.bind fun x37 h23=>.st rfl (cl (CC.h h23) [2] [] [true] rfl (.p rfl<|.a kD<|.nil) (.p rfl (.i<|.i<|.nil) .nil) fnil (.cons (.v (.i<|.i<|.nil)) .nil) (ren_agg (K:=kI) _) (.turned .nil) rfl) rfl<|.g 3 rfl<|.bind fun x38 h24=>.st rfl (cl (CC.h h24) [2] [] [true] rfl (.p rfl<|.i<|.nil) (.p rfl (.i<|.i<|.nil) .nil) fnil (.cons (.v (.i<|.i<|.nil)) .nil) (ren_agg (K:=kI) _) (.turned .nil) rfl) rfl<|.g 1 rfl<|.bind fun x39 h25=>.st rfl (cl (CC.h h25) [2] [] [true] rfl (.p rfl<|.a kI<|.a kI<|.nil) (.p rfl (.i<|.i<|.nil) .nil) fnil (.cons (.v (.i<|.i<|.nil)) .nil) (ren_agg (K:=kI) _) (.turned .nil) rfl) rfl<|.bind fun x40 h26=>.st rfl (cl (CC.h h26) [2] [] [true] rfl (.p rfl<|.a kI<|.a kI<|.nil) (.p rfl (.i<|.i<|.nil) .nil) fnil (.cons (.v (.i<|.i<|.nil)) .nil) (ren_agg (K:=kI) _) (.turned .nil) rfl) rfl<|.g 2 rfl<|.dn (by kernel_rfl)<|.g 11 rfl<|?_
        refine .cd rfl (fun _ _=>?_) fun _ _=>?_
        ·refine .g 10 rfl<|.dn (by kernel_rfl)<|.g 3 rfl<|.fi rfl rfl
        ·refine .g 9 rfl<|.dn (by kernel_rfl)<|.g 2 rfl<|.fi rfl rfl
      ·intro h29
       refine .g 4 rfl<|?_
       refine .gd 74 rfl (fun _=>?_) fun _=>?_
       ·refine .g 4 rfl<|.jw (h29 true) [(0,0),(1,1),(2,2),(3,3)] rfl
       ·refine .g 4 rfl<|.jw (h29 (!x35.2)) [(0,0),(1,1),(2,2),(3,3)] rfl
  ·intro h31
   refine .g 3 rfl<|?_
   refine .gd 28 rfl (fun _=>?_) fun _=>?_
   ·refine .g 4 rfl<|.jw (h31 (decide (x22.1>11))) [(0,0),(1,1)] rfl
   ·refine .g 4 rfl<|.jw (h31 false) [(0,0),(1,1)] rfl
instance r07_Sin_i (a0:AI) (a1:Int) (a2:Int):CC (r07_Sin a0 a1 a2) Tryz.prog 292 [(.ptr 0 0),(.agg (kI.enc a0))] [(.live 141 [(.int .i64 a1),(.int .i64 a2)])] (fun r=>(.agg (kI.enc (⟨⟨(((r.1).Lo).M),((r.1).Lo).E⟩,⟨(((r.1).Hi).M),((r.1).Hi).E⟩⟩:AI)))) (fun r=>[(.live 141 [(.int .i64 a1),(.int .i64 r.2)])]):=cc func292 (by kernel_rfl) rfl fun E=>by
 unfold r07_Sin
 refine .g 11 rfl<|.bind fun x133 h1=>.st rfl (cl (CC.h h1) [0] [] [true] rfl (.p rfl<|.a kI<|.i<|.nil) (.p rfl (.i<|.i<|.nil) .nil) fnil (.cons (.v (.i<|.i<|.nil)) .nil) (.bool _) (.turned .nil) rfl) rfl<|.g 3 rfl<|?_
 refine .cd rfl (fun _ _=>?_) fun _ _=>?_
 ·refine .g 8 rfl<|.fi rfl rfl
 ·refine .g 7 rfl<|.bind fun x134 h4=>.st rfl (cl (CC.h h4) [0] [] [true] rfl (.p rfl<|.a kI<|.a kI<|.nil) (.p rfl (.i<|.i<|.nil) .nil) fnil (.cons (.v (.i<|.i<|.nil)) .nil) (ren_agg (K:=kI) _) (.turned .nil) rfl) rfl<|.g 24 rfl<|?_
  refine .cut (fun x:Int × Bool × (List Int) × Int × Bool × (List Int) × Int=>(r07_Sin_j1 a1 x.1 x.2.1 x.2.2.1 x.2.2.2.1 x.2.2.2.2.1 x.2.2.2.2.2.1 x.2.2.2.2.2.2,[eP 0 0,eP 4 2,eP 6 4],[(0,(.live 141 [(.int .i64 a1),(.int .i64 x.1)])),(2,(.live 30 [(.bool false),(slK (kInt .u32) []),(.int .i64 0),(.bool false),(slK (kInt .u32) []),(.int .i64 0)])),(4,(.live 30 [(.bool x.2.1),(slK (kInt .u32) x.2.2.1),(.int .i64 x.2.2.2.1),(.bool x.2.2.2.2.1),(slK (kInt .u32) x.2.2.2.2.2.1),(.int .i64 x.2.2.2.2.2.2)]))])) ?_ ?_
  ·rintro ⟨y196,y197,y198,y199,y200,y201,y202⟩
   dsimp only [r07_Sin_j1]
   refine .g 5 rfl<|.bind fun x203 h44=>.st rfl (cl (CC.h h44) [0] [] [true] rfl (.p rfl<|.a kI<|.nil) (.p rfl (.i<|.i<|.nil) .nil) fnil (.cons (.v (.i<|.i<|.nil)) .nil) (ren_agg (K:=kI) _) (.turned .nil) rfl) rfl<|.g 4 rfl<|.fi rfl rfl
  ·intro h45
   refine .g 1 rfl<|?_
   refine .lp (fun n (x:Int × Int × Bool × (List Int) × Int × Bool × (List Int) × Int × Bool × (List Int) × Int × Bool × (List Int) × Int)=>r07_Sin_l2 a1 x134 n x.1 x.2.1 x.2.2.1 x.2.2.2.1 x.2.2.2.2.1 x.2.2.2.2.2.1 x.2.2.2.2.2.2.1 x.2.2.2.2.2.2.2.1 x.2.2.2.2.2.2.2.2.1 x.2.2.2.2.2.2.2.2.2.1 x.2.2.2.2.2.2.2.2.2.2.1 x.2.2.2.2.2.2.2.2.2.2.2.1 x.2.2.2.2.2.2.2.2.2.2.2.2.1 x.2.2.2.2.2.2.2.2.2.2.2.2.2) (fun x=>([eP 0 0,eP 4 2,eP 5 3,eP 6 4,eP 7 5,eI 8 x.1],[(0,(.live 141 [(.int .i64 a1),(.int .i64 x.2.1)])),(2,(.live 30 [(.bool false),(slK (kInt .u32) []),(.int .i64 0),(.bool false),(slK (kInt .u32) []),(.int .i64 0)])),(3,(.live 30 [(.bool ((((x134.1).Lo).M).Neg)),(slK (kInt .u32) ((((x134.1).Lo).M).Mag)),(.int .i64 (((x134.1).Lo).E)),(.bool ((((x134.1).Hi).M).Neg)),(slK (kInt .u32) ((((x134.1).Hi).M).Mag)),(.int .i64 (((x134.1).Hi).E))])),(4,(.live 30 [(.bool x.2.2.1),(slK (kInt .u32) x.2.2.2.1),(.int .i64 x.2.2.2.2.1),(.bool x.2.2.2.2.2.1),(slK (kInt .u32) x.2.2.2.2.2.2.1),(.int .i64 x.2.2.2.2.2.2.2.1)])),(5,(.live 30 [(.bool x.2.2.2.2.2.2.2.2.1),(slK (kInt .u32) x.2.2.2.2.2.2.2.2.2.1),(.int .i64 x.2.2.2.2.2.2.2.2.2.2.1),(.bool x.2.2.2.2.2.2.2.2.2.2.2.1),(slK (kInt .u32) x.2.2.2.2.2.2.2.2.2.2.2.2.1),(.int .i64 x.2.2.2.2.2.2.2.2.2.2.2.2.2)]))])) (1,x134.2,a0.Lo.M.Neg,a0.Lo.M.Mag,a0.Lo.E,a0.Hi.M.Neg,a0.Hi.M.Mag,a0.Hi.E,a0.Lo.M.Neg,a0.Lo.M.Mag,a0.Lo.E,a0.Hi.M.Neg,a0.Hi.M.Mag,a0.Hi.E) [(0,0),(2,2),(3,3),(4,4),(5,5)] rfl ?_
   rintro n2 ⟨y240,y241,y242,y243,y244,y245,y246,y247,y248,y249,y250,y251,y252,y253⟩
   try dsimp only
   rw [r07_Sin_l2]
   refine .g 8 rfl<|.p0 rfl rfl fun x254 _=>.g 3 rfl<|?_
   refine .cd rfl (fun _ _=>?_) fun _ _=>?_
   ·refine .g 11 rfl<|.bind fun x260 h80=>.st rfl (cl (CC.h h80) [0] [] [true] rfl (.p rfl<|.a kI<|.a kI<|.nil) (.p rfl (.i<|.i<|.nil) .nil) fnil (.cons (.v (.i<|.i<|.nil)) .nil) (ren_agg (K:=kI) _) (.turned .nil) rfl) rfl<|.g 7 rfl<|.bind fun x261 h81=>.st rfl (cl (CC.h h81) [0] [] [true] rfl (.p rfl<|.i<|.nil) (.p rfl (.i<|.i<|.nil) .nil) fnil (.cons (.v (.i<|.i<|.nil)) .nil) (ren_agg (K:=kI) _) (.turned .nil) rfl) rfl<|.bind fun x262 h82=>.st rfl (cl (CC.h h82) [0] [] [true] rfl (.p rfl<|.a kI<|.a kI<|.nil) (.p rfl (.i<|.i<|.nil) .nil) fnil (.cons (.v (.i<|.i<|.nil)) .nil) (ren_agg (K:=kI) _) (.turned .nil) rfl) rfl<|.bind fun x263 h83=>.st rfl (cl (CC.h h83) [0] [] [true] rfl (.p rfl<|.a kI<|.nil) (.p rfl (.i<|.i<|.nil) .nil) fnil (.cons (.v (.i<|.i<|.nil)) .nil) (ren_agg (K:=kI) _) (.turned .nil) rfl) rfl<|.g 7 rfl<|.bind fun x264 h84=>.st rfl (cl (CC.h h84) [0] [] [true] rfl (.p rfl<|.a kI<|.a kI<|.nil) (.p rfl (.i<|.i<|.nil) .nil) fnil (.cons (.v (.i<|.i<|.nil)) .nil) (ren_agg (K:=kI) _) (.turned .nil) rfl) rfl<|.g 9 rfl<|.ag ((IntKind.i64.wrap (y240+1)),x264.2,(((x264.1).Lo).M).Neg,(((x264.1).Lo).M).Mag,((x264.1).Lo).E,(((x264.1).Hi).M).Neg,(((x264.1).Hi).M).Mag,((x264.1).Hi).E,(((x263.1).Lo).M).Neg,(((x263.1).Lo).M).Mag,((x263.1).Lo).E,(((x263.1).Hi).M).Neg,(((x263.1).Hi).M).Mag,((x263.1).Hi).E) [(0,0),(2,2),(3,3),(4,4),(5,5)] rfl
   ·refine .g 4 rfl<|.jw (h45 (y241,y242,y243,y244,y245,y246,y247)) [(0,0),(2,2),(4,4)] rfl
instance r07_Cos_i (a0:AI) (a1:Int) (a2:Int):CC (r07_Cos a0 a1 a2) Tryz.prog 293 [(.ptr 0 0),(.agg (kI.enc a0))] [(.live 141 [(.int .i64 a1),(.int .i64 a2)])] (fun r=>(.agg (kI.enc (⟨⟨(((r.1).Lo).M),((r.1).Lo).E⟩,⟨(((r.1).Hi).M),((r.1).Hi).E⟩⟩:AI)))) (fun r=>[(.live 141 [(.int .i64 a1),(.int .i64 r.2)])]):=cc func293 (by kernel_rfl) rfl fun E=>by
 unfold r07_Cos
 refine .g 11 rfl<|.bind fun x135 h1=>.st rfl (cl (CC.h h1) [0] [] [true] rfl (.p rfl<|.a kI<|.i<|.nil) (.p rfl (.i<|.i<|.nil) .nil) fnil (.cons (.v (.i<|.i<|.nil)) .nil) (.bool _) (.turned .nil) rfl) rfl<|.g 3 rfl<|?_
 refine .cd rfl (fun _ _=>?_) fun _ _=>?_
 ·refine .g 8 rfl<|.fi rfl rfl
 ·refine .g 7 rfl<|.bind fun x136 h4=>.st rfl (cl (CC.h h4) [0] [] [true] rfl (.p rfl<|.a kI<|.a kI<|.nil) (.p rfl (.i<|.i<|.nil) .nil) fnil (.cons (.v (.i<|.i<|.nil)) .nil) (ren_agg (K:=kI) _) (.turned .nil) rfl) rfl<|.g 7 rfl<|.bind fun x137 h5=>.st rfl (cl (CC.h h5) [0] [] [true] rfl (.p rfl<|.i<|.nil) (.p rfl (.i<|.i<|.nil) .nil) fnil (.cons (.v (.i<|.i<|.nil)) .nil) (ren_agg (K:=kI) _) (.turned .nil) rfl) rfl<|.g 7 rfl<|.bind fun x138 h6=>.st rfl (cl (CC.h h6) [0] [] [true] rfl (.p rfl<|.i<|.nil) (.p rfl (.i<|.i<|.nil) .nil) fnil (.cons (.v (.i<|.i<|.nil)) .nil) (ren_agg (K:=kI) _) (.turned .nil) rfl) rfl<|.g 10 rfl<|?_
  refine .cut (fun x:Int × Bool × (List Int) × Int × Bool × (List Int) × Int=>(r07_Cos_j1 a1 x.1 x.2.1 x.2.2.1 x.2.2.2.1 x.2.2.2.2.1 x.2.2.2.2.2.1 x.2.2.2.2.2.2,[eP 0 0,eP 4 2,eP 6 4],[(0,(.live 141 [(.int .i64 a1),(.int .i64 x.1)])),(2,(.live 30 [(.bool false),(slK (kInt .u32) []),(.int .i64 0),(.bool false),(slK (kInt .u32) []),(.int .i64 0)])),(4,(.live 30 [(.bool x.2.1),(slK (kInt .u32) x.2.2.1),(.int .i64 x.2.2.2.1),(.bool x.2.2.2.2.1),(slK (kInt .u32) x.2.2.2.2.2.1),(.int .i64 x.2.2.2.2.2.2)]))])) ?_ ?_
  ·rintro ⟨y200,y201,y202,y203,y204,y205,y206⟩
   dsimp only [r07_Cos_j1]
   refine .g 5 rfl<|.bind fun x207 h46=>.st rfl (cl (CC.h h46) [0] [] [true] rfl (.p rfl<|.a kI<|.nil) (.p rfl (.i<|.i<|.nil) .nil) fnil (.cons (.v (.i<|.i<|.nil)) .nil) (ren_agg (K:=kI) _) (.turned .nil) rfl) rfl<|.g 4 rfl<|.fi rfl rfl
  ·intro h47
   refine .g 1 rfl<|?_
   refine .lp (fun n (x:Int × Int × Bool × (List Int) × Int × Bool × (List Int) × Int × Bool × (List Int) × Int × Bool × (List Int) × Int)=>r07_Cos_l2 a1 x136 n x.1 x.2.1 x.2.2.1 x.2.2.2.1 x.2.2.2.2.1 x.2.2.2.2.2.1 x.2.2.2.2.2.2.1 x.2.2.2.2.2.2.2.1 x.2.2.2.2.2.2.2.2.1 x.2.2.2.2.2.2.2.2.2.1 x.2.2.2.2.2.2.2.2.2.2.1 x.2.2.2.2.2.2.2.2.2.2.2.1 x.2.2.2.2.2.2.2.2.2.2.2.2.1 x.2.2.2.2.2.2.2.2.2.2.2.2.2) (fun x=>([eP 0 0,eP 4 2,eP 5 3,eP 6 4,eP 7 5,eI 8 x.1],[(0,(.live 141 [(.int .i64 a1),(.int .i64 x.2.1)])),(2,(.live 30 [(.bool false),(slK (kInt .u32) []),(.int .i64 0),(.bool false),(slK (kInt .u32) []),(.int .i64 0)])),(3,(.live 30 [(.bool ((((x136.1).Lo).M).Neg)),(slK (kInt .u32) ((((x136.1).Lo).M).Mag)),(.int .i64 (((x136.1).Lo).E)),(.bool ((((x136.1).Hi).M).Neg)),(slK (kInt .u32) ((((x136.1).Hi).M).Mag)),(.int .i64 (((x136.1).Hi).E))])),(4,(.live 30 [(.bool x.2.2.1),(slK (kInt .u32) x.2.2.2.1),(.int .i64 x.2.2.2.2.1),(.bool x.2.2.2.2.2.1),(slK (kInt .u32) x.2.2.2.2.2.2.1),(.int .i64 x.2.2.2.2.2.2.2.1)])),(5,(.live 30 [(.bool x.2.2.2.2.2.2.2.2.1),(slK (kInt .u32) x.2.2.2.2.2.2.2.2.2.1),(.int .i64 x.2.2.2.2.2.2.2.2.2.2.1),(.bool x.2.2.2.2.2.2.2.2.2.2.2.1),(slK (kInt .u32) x.2.2.2.2.2.2.2.2.2.2.2.2.1),(.int .i64 x.2.2.2.2.2.2.2.2.2.2.2.2.2)]))])) (1,x138.2,(((x137.1).Lo).M).Neg,(((x137.1).Lo).M).Mag,((x137.1).Lo).E,(((x137.1).Hi).M).Neg,(((x137.1).Hi).M).Mag,((x137.1).Hi).E,(((x138.1).Lo).M).Neg,(((x138.1).Lo).M).Mag,((x138.1).Lo).E,(((x138.1).Hi).M).Neg,(((x138.1).Hi).M).Mag,((x138.1).Hi).E) [(0,0),(2,2),(3,3),(4,4),(5,5)] rfl ?_
   rintro n2 ⟨y244,y245,y246,y247,y248,y249,y250,y251,y252,y253,y254,y255,y256,y257⟩
   try dsimp only
   rw [r07_Cos_l2]
   refine .g 8 rfl<|.p0 rfl rfl fun x258 _=>.g 3 rfl<|?_
   refine .cd rfl (fun _ _=>?_) fun _ _=>?_
   ·refine .g 11 rfl<|.bind fun x264 h82=>.st rfl (cl (CC.h h82) [0] [] [true] rfl (.p rfl<|.a kI<|.a kI<|.nil) (.p rfl (.i<|.i<|.nil) .nil) fnil (.cons (.v (.i<|.i<|.nil)) .nil) (ren_agg (K:=kI) _) (.turned .nil) rfl) rfl<|.g 7 rfl<|.bind fun x265 h83=>.st rfl (cl (CC.h h83) [0] [] [true] rfl (.p rfl<|.i<|.nil) (.p rfl (.i<|.i<|.nil) .nil) fnil (.cons (.v (.i<|.i<|.nil)) .nil) (ren_agg (K:=kI) _) (.turned .nil) rfl) rfl<|.bind fun x266 h84=>.st rfl (cl (CC.h h84) [0] [] [true] rfl (.p rfl<|.a kI<|.a kI<|.nil) (.p rfl (.i<|.i<|.nil) .nil) fnil (.cons (.v (.i<|.i<|.nil)) .nil) (ren_agg (K:=kI) _) (.turned .nil) rfl) rfl<|.bind fun x267 h85=>.st rfl (cl (CC.h h85) [0] [] [true] rfl (.p rfl<|.a kI<|.nil) (.p rfl (.i<|.i<|.nil) .nil) fnil (.cons (.v (.i<|.i<|.nil)) .nil) (ren_agg (K:=kI) _) (.turned .nil) rfl) rfl<|.g 7 rfl<|.bind fun x268 h86=>.st rfl (cl (CC.h h86) [0] [] [true] rfl (.p rfl<|.a kI<|.a kI<|.nil) (.p rfl (.i<|.i<|.nil) .nil) fnil (.cons (.v (.i<|.i<|.nil)) .nil) (ren_agg (K:=kI) _) (.turned .nil) rfl) rfl<|.g 9 rfl<|.ag ((IntKind.i64.wrap (y244+1)),x268.2,(((x268.1).Lo).M).Neg,(((x268.1).Lo).M).Mag,((x268.1).Lo).E,(((x268.1).Hi).M).Neg,(((x268.1).Hi).M).Mag,((x268.1).Hi).E,(((x267.1).Lo).M).Neg,(((x267.1).Lo).M).Mag,((x267.1).Lo).E,(((x267.1).Hi).M).Neg,(((x267.1).Hi).M).Mag,((x267.1).Hi).E) [(0,0),(2,2),(3,3),(4,4),(5,5)] rfl
   ·refine .g 4 rfl<|.jw (h47 (y245,y246,y247,y248,y249,y250,y251)) [(0,0),(2,2),(4,4)] rfl
instance r06_COut_i (a0:AI) (a1:Int) (a2:Int):CC (r06_COut a0 a1 a2) Tryz.prog 316 [(.ptr 0 0),(.agg (kI.enc a0))] [(.live 141 [(.int .i64 a1),(.int .i64 a2)])] (fun r=>(.agg (kI.enc (⟨⟨(((r.1).Lo).M),((r.1).Lo).E⟩,⟨(((r.1).Hi).M),((r.1).Hi).E⟩⟩:AI)))) (fun r=>[(.live 141 [(.int .i64 a1),(.int .i64 r.2)])]):=cc func316 (by kernel_rfl) rfl fun E=>by
 unfold r06_COut
 refine .g 11 rfl<|.st rfl (bs kI [a0] rfl rfl) rfl<|.bind fun x5 h1=>.st rfl (cl (CC.h h1) [0] [] [true] rfl (.p rfl<|.l<|.nil) (.p rfl (.i<|.i<|.nil) .nil) fnil (.cons (.v (.i<|.i<|.nil)) .nil) (.bool _) (.turned .nil) rfl) rfl<|.g 3 rfl<|?_
 refine .cd rfl (fun _ _=>?_) fun _ _=>?_
 ·refine .g 8 rfl<|.fi rfl rfl
 ·refine .g 7 rfl<|.bind fun x6 h4=>.st rfl (cl (CC.h h4) [0] [] [true] rfl (.p rfl<|.a kD<|.b<|.nil) (.p rfl (.i<|.i<|.nil) .nil) fnil (.cons (.v (.i<|.i<|.nil)) .nil) (ren_agg (K:=kD) _) (.turned .nil) rfl) rfl<|.g 9 rfl<|.bind fun x7 h5=>.st rfl (cl (CC.h h5) [0] [] [true] rfl (.p rfl<|.a kD<|.b<|.nil) (.p rfl (.i<|.i<|.nil) .nil) fnil (.cons (.v (.i<|.i<|.nil)) .nil) (ren_agg (K:=kD) _) (.turned .nil) rfl) rfl<|.g 9 rfl<|.bind fun x8 h6=>.st rfl (cl (CC.h h6) [0] [] [false] rfl (.p rfl<|.a kD<|.a kD<|.nil) (.p rfl (.i<|.i<|.nil) .nil) fnil (.cons (.v (.i<|.i<|.nil)) .nil) (ren_agg (K:=kI) _) (.kept rfl .nil) rfl) rfl<|.g 4 rfl<|.fi rfl rfl
instance r09_Ends_i (a0:AI) (a1:Int) (a2:Int) (a3:Int):CC (r09_Ends a0 a1 a2 a3) Tryz.prog 248 [(.ptr 0 0),(.agg (kI.enc a0)),(.int .i64 a1)] [(.live 141 [(.int .i64 a2),(.int .i64 a3)])] (fun r=>(.tup [(.agg (kI.enc (⟨⟨(((r.1).Lo).M),((r.1).Lo).E⟩,⟨(((r.1).Hi).M),((r.1).Hi).E⟩⟩:AI))),(.int .i64 r.2)])) (fun r=>[(.live 141 [(.int .i64 a2),(.int .i64 a3)])]):=cc func248 (by kernel_rfl) rfl fun E=>by
 unfold r09_Ends
 refine .g 17 rfl<|?_
 refine .cd rfl (fun _ _=>?_) fun _ _=>?_
 ·refine .g 9 rfl<|.dn (by kernel_rfl)<|.g 3 rfl<|.fi rfl rfl
 ·refine .g 5 rfl<|.bind fun x5 h3=>?_
  rcases x5 with x6 | x7
  ·dsimp only
   refine .st rfl (cl (r06_New_k_0 h3) [] [3] [true] rfl (.i<|.nil) .nil (fresh_cons rfl fnil) (.cons .dead .nil) .nilptr (.turned .nil) rfl) rfl<|.g 7 rfl<|.no
  ·dsimp only
   refine .st rfl (cl (r06_New_k_1 h3) [] [3] [true] rfl (.i<|.nil) .nil (fresh_cons rfl fnil) (.cons (.v (.i<|.i<|.nil)) .nil) (.ptr _ _ _ rfl) (.turned .nil) rfl) rfl<|.g 7 rfl<|.bind fun x8 h4=>.st rfl (cl (CC.h h4) [3] [] [true] rfl (.p rfl<|.a kI<|.nil) (.p rfl (.i<|.i<|.nil) .nil) fnil (.cons (.v (.i<|.i<|.nil)) .nil) (ren_agg (K:=kI) _) (.turned .nil) rfl) rfl<|.g 13 rfl<|.dn (by kernel_rfl)<|.g 2 rfl<|.fi rfl rfl
instance r10_quarter_i (a0:Int) (a1:AI) (a2:Int):PC (r10_quarter a0 a1 a2) Tryz.prog 209 [(.int .i64 a0),(.agg (kI.enc a1)),(.int .i64 a2)] (fun r=>(.tup [(.agg (kI.enc (⟨⟨(((r.1).Lo).M),((r.1).Lo).E⟩,⟨(((r.1).Hi).M),((r.1).Hi).E⟩⟩:AI))),(.int .i64 r.2)])):=pc func209 (by kernel_rfl) rfl fun E=>by
 unfold r10_quarter
 refine .g 11 rfl<|.bind fun x25 h1=>?_
 rcases x25 with x26 | x27
 ·dsimp only
  refine .st rfl (cl (r06_New_k_0 h1) [] [2] [true] rfl (.i<|.nil) .nil (fresh_cons rfl fnil) (.cons .dead .nil) .nilptr (.turned .nil) rfl) rfl<|.g 16 rfl<|?_
  refine .cd rfl (fun _ _=>?_) fun _ _=>?_
  ·refine .g 3 rfl<|.no
  ·refine .g 3 rfl<|.no
 ·dsimp only
  refine .st rfl (cl (r06_New_k_1 h1) [] [2] [true] rfl (.i<|.nil) .nil (fresh_cons rfl fnil) (.cons (.v (.i<|.i<|.nil)) .nil) (.ptr _ _ _ rfl) (.turned .nil) rfl) rfl<|.g 16 rfl<|?_
  refine .cut (fun x:Int × Bool × (List Int) × Int × Bool × (List Int) × Int=>(r10_quarter_j1 a0 x27 a2 x.1 x.2.1 x.2.2.1 x.2.2.2.1 x.2.2.2.2.1 x.2.2.2.2.2.1 x.2.2.2.2.2.2,[eI 0 a0,eI 2 a2,eP 6 1,eP 8 2,eP 9 3],[(1,(.live 30 [(.bool false),(slK (kInt .u32) []),(.int .i64 0),(.bool false),(slK (kInt .u32) []),(.int .i64 0)])),(2,(.live 141 [(.int .i64 x27.1),(.int .i64 x.1)])),(3,(.live 30 [(.bool x.2.1),(slK (kInt .u32) x.2.2.1),(.int .i64 x.2.2.2.1),(.bool x.2.2.2.2.1),(slK (kInt .u32) x.2.2.2.2.2.1),(.int .i64 x.2.2.2.2.2.2)]))])) ?_ ?_
  ·rintro ⟨y30,y31,y32,y33,y34,y35,y36⟩
   dsimp only [r10_quarter_j1]
   refine .g 9 rfl<|?_
   refine .cut (fun x:Int × Bool × (List Int) × Int × Bool × (List Int) × Int=>(r10_quarter_j2 a2 x27 x.1 x.2.1 x.2.2.1 x.2.2.2.1 x.2.2.2.2.1 x.2.2.2.2.2.1 x.2.2.2.2.2.2,[eI 2 a2,eP 6 1,eP 8 2,eP 9 3],[(1,(.live 30 [(.bool false),(slK (kInt .u32) []),(.int .i64 0),(.bool false),(slK (kInt .u32) []),(.int .i64 0)])),(2,(.live 141 [(.int .i64 x27.1),(.int .i64 x.1)])),(3,(.live 30 [(.bool x.2.1),(slK (kInt .u32) x.2.2.1),(.int .i64 x.2.2.2.1),(.bool x.2.2.2.2.1),(slK (kInt .u32) x.2.2.2.2.2.1),(.int .i64 x.2.2.2.2.2.2)]))])) ?_ ?_
   ·rintro ⟨y38,y39,y40,y41,y42,y43,y44⟩
    dsimp only [r10_quarter_j2]
    refine .g 6 rfl<|.bind fun x45 h13=>.st rfl (cl (CC.h h13) [2] [] [false] rfl (.p rfl<|.a kI<|.i<|.nil) (.p rfl (.i<|.i<|.nil) .nil) fnil (.cons (.v (.i<|.i<|.nil)) .nil) (ren_tupL (.a kI<|.i<|.nil)) (.kept rfl .nil) rfl) rfl<|.g 7 rfl<|.fi rfl rfl
   ·intro h14
    refine .cd rfl (fun _ _=>?_) fun _ _=>?_
    ·refine .g 3 rfl<|.bind fun x46 h17=>.st rfl (cl (CC.h h17) [2] [] [true] rfl (.p rfl<|.a kI<|.nil) (.p rfl (.i<|.i<|.nil) .nil) fnil (.cons (.v (.i<|.i<|.nil)) .nil) (ren_agg (K:=kI) _) (.turned .nil) rfl) rfl<|.g 2 rfl<|.jw (h14 (x46.2,(((x46.1).Lo).M).Neg,(((x46.1).Lo).M).Mag,((x46.1).Lo).E,(((x46.1).Hi).M).Neg,(((x46.1).Hi).M).Mag,((x46.1).Hi).E)) [(1,1),(2,2),(3,3)] rfl
    ·refine .g 1 rfl<|.jw (h14 (y30,y31,y32,y33,y34,y35,y36)) [(1,1),(2,2),(3,3)] rfl
  ·intro h18
   refine .cd rfl (fun _ _=>?_) fun _ _=>?_
   ·refine .g 3 rfl<|.bind fun x47 h21=>.st rfl (cl (CC.h h21) [2] [] [true] rfl (.p rfl<|.a kI<|.nil) (.p rfl (.i<|.i<|.nil) .nil) fnil (.cons (.v (.i<|.i<|.nil)) .nil) (ren_agg (K:=kI) _) (.turned .nil) rfl) rfl<|.g 2 rfl<|.jw (h18 (x47.2,(((x47.1).Lo).M).Neg,(((x47.1).Lo).M).Mag,((x47.1).Lo).E,(((x47.1).Hi).M).Neg,(((x47.1).Hi).M).Mag,((x47.1).Hi).E)) [(1,1),(2,2),(3,3)] rfl
   ·refine .g 3 rfl<|.bind fun x48 h22=>.st rfl (cl (CC.h h22) [2] [] [true] rfl (.p rfl<|.a kI<|.nil) (.p rfl (.i<|.i<|.nil) .nil) fnil (.cons (.v (.i<|.i<|.nil)) .nil) (ren_agg (K:=kI) _) (.turned .nil) rfl) rfl<|.g 2 rfl<|.jw (h18 (x48.2,(((x48.1).Lo).M).Neg,(((x48.1).Lo).M).Mag,((x48.1).Lo).E,(((x48.1).Hi).M).Neg,(((x48.1).Hi).M).Mag,((x48.1).Hi).E)) [(1,1),(2,2),(3,3)] rfl
instance r10_Cos_i (a0:AD) (a1:Int):PC (r10_Cos a0 a1) Tryz.prog 108 [(.agg (kD.enc a0)),(.int .i64 a1)] (fun r=>(.tup [(.agg (kI.enc (⟨⟨(((r.1).Lo).M),((r.1).Lo).E⟩,⟨(((r.1).Hi).M),((r.1).Hi).E⟩⟩:AI))),(.int .i64 r.2)])):=pc func108 (by kernel_rfl) rfl fun E=>by
 unfold r10_Cos
 refine .g 11 rfl<|.p0 rfl rfl fun x3 _=>.g 17 rfl<|?_
 refine .cd rfl (fun _ _=>?_) fun _ _=>?_
 ·refine .g 10 rfl<|.fi rfl rfl
 ·refine .g 8 rfl<|.p0 rfl rfl fun x4 _=>.g 7 rfl<|.fi rfl rfl
instance r15_Node_i (a0:Int) (a1:Int):PC (r15_Node a0 a1) Tryz.prog 38 [(.int .i64 a0),(.int .i64 a1)] (fun r=>(.tup [(.agg (kD.enc (⟨((r.1).M),(r.1).E⟩:AD))),(.int .i64 r.2)])):=pc func38 (by kernel_rfl) rfl fun E=>by
 unfold r15_Node
 refine .g 8 rfl<|?_
 refine .cut (fun x:Bool=>(r15_Node_j1 a0 a1 x,[eI 0 a0,eI 1 a1,eP 4 0,eB 25 x],[(0,(.live 26 [(.bool false),(slK (kInt .u32) []),(.int .i64 0)]))])) ?_ ?_
 ·rintro y13
  dsimp only [r15_Node_j1]
  refine .g 1 rfl<|?_
  refine .cd rfl (fun _ _=>?_) fun _ _=>?_
  ·refine .g 9 rfl<|.fi rfl rfl
  ·refine .g 4 rfl<|.bind fun x14 h6=>?_
   rcases x14 with x15 | x16
   ·dsimp only
    refine .st rfl (cl (r06_New_k_0 h6) [] [1] [true] rfl (.i<|.nil) .nil (fresh_cons rfl fnil) (.cons .dead .nil) .nilptr (.turned .nil) rfl) rfl<|.g 9 rfl<|.no
   ·dsimp only
    refine .st rfl (cl (r06_New_k_1 h6) [] [1] [true] rfl (.i<|.nil) .nil (fresh_cons rfl fnil) (.cons (.v (.i<|.i<|.nil)) .nil) (.ptr _ _ _ rfl) (.turned .nil) rfl) rfl<|.g 9 rfl<|.bind fun x17 h7=>.st rfl (cl (CC.h h7) [1] [] [true] rfl (.p rfl<|.nil) (.p rfl (.i<|.i<|.nil) .nil) fnil (.cons (.v (.i<|.i<|.nil)) .nil) (ren_agg (K:=kI) _) (.turned .nil) rfl) rfl<|.g 4 rfl<|.bind fun x18 h8=>.st rfl (cl (CC.h h8) [1] [] [true] rfl (.p rfl<|.i<|.nil) (.p rfl (.i<|.i<|.nil) .nil) fnil (.cons (.v (.i<|.i<|.nil)) .nil) (ren_agg (K:=kI) _) (.turned .nil) rfl) rfl<|.bind fun x19 h9=>.st rfl (cl (CC.h h9) [1] [] [true] rfl (.p rfl<|.a kI<|.a kI<|.nil) (.p rfl (.i<|.i<|.nil) .nil) fnil (.cons (.v (.i<|.i<|.nil)) .nil) (ren_agg (K:=kI) _) (.turned .nil) rfl) rfl<|.g 4 rfl<|.bind fun x20 h10=>.st rfl (cl (CC.h h10) [1] [] [true] rfl (.p rfl<|.i<|.nil) (.p rfl (.i<|.i<|.nil) .nil) fnil (.cons (.v (.i<|.i<|.nil)) .nil) (ren_agg (K:=kI) _) (.turned .nil) rfl) rfl<|.bind fun x21 h11=>.st rfl (cl (CC.h h11) [1] [] [true] rfl (.p rfl<|.a kI<|.a kI<|.nil) (.p rfl (.i<|.i<|.nil) .nil) fnil (.cons (.v (.i<|.i<|.nil)) .nil) (ren_agg (K:=kI) _) (.turned .nil) rfl) rfl<|?_
    refine .bind fun x22 h12=>.st rfl (cl (CC.h h12) [1] [] [true] rfl (.p rfl<|.a kI<|.nil) (.p rfl (.i<|.i<|.nil) .nil) fnil (.cons (.v (.i<|.i<|.nil)) .nil) (ren_agg (K:=kD) _) (.turned .nil) rfl) rfl<|.g 14 rfl<|?_
    refine .cd rfl (fun _ _=>?_) fun _ _=>?_
    ·refine .g 9 rfl<|.dn (by kernel_rfl)<|.g 3 rfl<|.fi rfl rfl
    ·refine .g 5 rfl<|.p0 rfl rfl fun x23 _=>.g 15 rfl<|?_
     refine .cd rfl (fun _ _=>?_) fun _ _=>?_
     ·refine .g 10 rfl<|.fi rfl rfl
     ·refine .g 6 rfl<|.bind fun x24 h18=>.st rfl (cl (CC.h h18) [1] [] [true] rfl (.p rfl<|.a kI<|.nil) (.p rfl (.i<|.i<|.nil) .nil) fnil (.cons (.v (.i<|.i<|.nil)) .nil) (ren_agg (K:=kD) _) (.turned .nil) rfl) rfl<|.g 13 rfl<|.dn (by kernel_rfl)<|.g 2 rfl<|.fi rfl rfl
 ·intro h19
  refine .g 4 rfl<|?_
  refine .gd 13 rfl (fun _=>?_) fun _=>?_
  ·refine .g 13 rfl<|.jw (h19 true) [(0,0)] rfl
  ·refine .g 4 rfl<|?_
   refine .gd 17 rfl (fun _=>?_) fun _=>?_
   ·refine .g 9 rfl<|.jw (h19 true) [(0,0)] rfl
   ·refine .g 4 rfl<|?_
    refine .gd 21 rfl (fun _=>?_) fun _=>?_
    ·refine .g 5 rfl<|.jw (h19 true) [(0,0)] rfl
    ·refine .g 5 rfl<|.jw (h19 (decide (a0>a1))) [(0,0)] rfl
instance r04_Same_i (a0:ApiInt) (a1:ApiInt):PC (r04_Same a0 a1) Tryz.prog 210 [(.agg (kN.enc a0)),(.agg (kN.enc a1))] (fun r=>(.bool r)):=pc func210 (by kernel_rfl) rfl fun E=>by
 unfold r04_Same
 refine .g 9 rfl<|?_
 refine .cut (fun x:Bool=>(r04_Same_j1 a0 a1 x,[eP 2 0,eP 3 1,eB 19 x],[(0,(.live 24 [(.bool a0.Neg),(slK (kInt .u32) a0.Mag)])),(1,(.live 24 [(.bool a1.Neg),(slK (kInt .u32) a1.Mag)]))])) ?_ ?_
 ·rintro y6
  dsimp only [r04_Same_j1]
  refine .g 1 rfl<|?_
  refine .cd rfl (fun _ _=>?_) fun _ _=>?_
  ·refine .g 7 rfl<|.fi rfl rfl
  ·refine .g 8 rfl<|?_
   refine .cut (fun x:Unit=>(r04_Same_j2,[],[])) ?_ ?_
   ·rintro _
    dsimp only [r04_Same_j2]
    refine .g 7 rfl<|.fi rfl rfl
   ·intro h34
    refine .g 1 rfl<|?_
    refine .lp (fun n (x:Int)=>r04_Same_l3 a0 a1 n x) (fun x=>([eP 2 0,eP 3 1,eI 5 x],[(0,(.live 24 [(.bool a0.Neg),(slK (kInt .u32) a0.Mag)])),(1,(.live 24 [(.bool a1.Neg),(slK (kInt .u32) a1.Mag)]))])) 0 [(0,0),(1,1)] rfl ?_
    rintro n3 y10
    try dsimp only
    rw [r04_Same_l3]
    refine .g 6 rfl<|.ln rfl rfl<|.g 3 rfl<|?_
    refine .cd rfl (fun _ _=>?_) fun _ _=>?_
    ·refine .g 9 rfl<|.ix rfl rfl<|.g 4 rfl<|.ix rfl rfl<|.g 2 rfl<|.dn (by kernel_rfl)<|.g 1 rfl<|?_
     refine .cd rfl (fun _ _=>?_) fun _ _=>?_
     ·refine .g 11 rfl<|.fi rfl rfl
     ·refine .g 8 rfl<|.ag (IntKind.i64.wrap (y10+1)) [(0,0),(1,1)] rfl
    ·refine .g 4 rfl<|.jw (h34 ()) [] rfl
 ·intro h65
  refine .g 7 rfl<|?_
  refine .gd 11 rfl (fun _=>?_) fun _=>?_
  ·refine .g 9 rfl<|.jw (h65 true) [(0,0),(1,1)] rfl
  ·refine .g 2 rfl<|.ln rfl rfl<|.g 2 rfl<|.ln rfl rfl<|.g 3 rfl<|.jw (h65 ((a0.Mag.length:Int) != (a1.Mag.length:Int))) [(0,0),(1,1)] rfl
instance r05_Same_i (a0:AD) (a1:AD):PC (r05_Same a0 a1) Tryz.prog 109 [(.agg (kD.enc a0)),(.agg (kD.enc a1))] (fun r=>(.bool r)):=pc func109 (by kernel_rfl) rfl fun E=>by
 unfold r05_Same
 refine .g 8 rfl<|?_
 refine .cut (fun x:Bool=>(r05_Same_j1 x,[eB 4 x],[])) ?_ ?_
 ·rintro y5
  dsimp only [r05_Same_j1]
  refine .g 2 rfl<|.fi rfl rfl
 ·intro h3
  refine .g 7 rfl<|?_
  refine .gd 10 rfl (fun _=>?_) fun _=>?_
  ·refine .g 4 rfl<|.p0 rfl rfl fun x6 _=>.g 3 rfl<|.jw (h3 x6) [] rfl
  ·refine .g 8 rfl<|.jw (h3 false) [] rfl
end Go.Proofs.YtoakhpdeadglpaaGreat.Gen
