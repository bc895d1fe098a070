/- Printed by geng.py: a call does what the plain function says. -/
import Derived.Test.YtoakhpdeadglpaaGreatChebFallsGenP3
set_option linter.unusedVariables false
set_option linter.unusedSimpArgs false
set_option maxRecDepth 4000
set_option synthInstance.maxSize 4000
set_option synthInstance.maxHeartbeats 400000
namespace Go.Proofs.YtoakhpdeadglpaaGreat.Gen
open Go Go.Abs Go.Proofs Go.Proofs.Tryz
instance small_plain_1_b404_i (a0:Int) (a1:AI) (a2:Int) (a3:Int) (a4:Bool) (a5:List Int) (a6:Int) (a7:Bool) (a8:List Int) (a9:Int):CC (small_plain_1_b404 a0 a1 a2 a3 a4 a5 a6 a7 a8 a9) Tryz.prog 328 [(.int .i64 a0),(.agg (kI.enc a1)),(.ptr 0 0)] [(.live 257 [(.fn 337 [] [(.ptr 1 0),(.ptr 3 0)])]),(.live 45 [(.ptr 2 0)]),(.live 53 [(.int .i64 a2),(.int .i64 a3)]),(.live 30 [(.bool a4),(slK (kInt .u32) a5),(.int .i64 a6),(.bool a7),(slK (kInt .u32) a8),(.int .i64 a9)])] (fun r=>(.tup [(.agg (kI.enc (⟨⟨(((r.1).Lo).M),((r.1).Lo).E⟩,⟨(((r.1).Hi).M),((r.1).Hi).E⟩⟩:AI))),(.agg (kI.enc (⟨⟨(((r.2.1).Lo).M),((r.2.1).Lo).E⟩,⟨(((r.2.1).Hi).M),((r.2.1).Hi).E⟩⟩:AI)))])) (fun r=>[(.live 257 [(.fn 337 [] [(.ptr 1 0),(.ptr 3 0)])]),(.live 45 [(.ptr 2 0)]),(.live 53 [(.int .i64 r.2.2),(.int .i64 a3)]),(.live 30 [(.bool a4),(slK (kInt .u32) a5),(.int .i64 a6),(.bool a7),(slK (kInt .u32) a8),(.int .i64 a9)])]):=cc func328 (by kernel_rfl) rfl fun E=>by
 unfold small_plain_1_b404
 refine .g 12 rfl<|.bind fun x2 h1=>.st rfl (cl (CC.h h1) [1,2,3] [] [false,true,false] rfl (.i<|.a kI<|.p rfl<|.p rfl<|.nil) (.p rfl (.p rfl<|.nil) (.p rfl (.i<|.i<|.nil) (.p rfl (.b<|.l<|.i<|.b<|.l<|.i<|.nil) .nil))) fnil (.cons (.v (.p rfl<|.nil)) (.cons (.v (.i<|.i<|.nil)) (.cons (.v (.b<|.l<|.i<|.b<|.l<|.i<|.nil)) .nil))) (ren_agg (K:=kI) _) (.kept rfl (.turned (.kept rfl .nil))) rfl) rfl<|.g 9 rfl<|.dn (by kernel_rfl)<|.g 2 rfl<|.fi rfl rfl
instance small_series_7c7a_i (a0:AI) (a1:Int) (a2:Int) (a3:Bool) (a4:List Int) (a5:Int) (a6:Bool) (a7:List Int) (a8:Int):CC (small_series_7c7a a0 a1 a2 a3 a4 a5 a6 a7 a8) Tryz.prog 327 [(.ptr 0 0),(.agg (kI.enc a0)),(.fn 328 [] [(.ptr 1 0)])] [(.live 53 [(.int .i64 a1),(.int .i64 a2)]),(.live 257 [(.fn 337 [] [(.ptr 2 0),(.ptr 3 0)])]),(.live 45 [(.ptr 0 0)]),(.live 30 [(.bool a3),(slK (kInt .u32) a4),(.int .i64 a5),(.bool a6),(slK (kInt .u32) a7),(.int .i64 a8)])] (fun r=>(.agg (kI.enc (⟨⟨(((r.1).Lo).M),((r.1).Lo).E⟩,⟨(((r.1).Hi).M),((r.1).Hi).E⟩⟩:AI)))) (fun r=>[(.live 53 [(.int .i64 r.2),(.int .i64 a2)]),(.live 257 [(.fn 337 [] [(.ptr 2 0),(.ptr 3 0)])]),(.live 45 [(.ptr 0 0)]),(.live 30 [(.bool a3),(slK (kInt .u32) a4),(.int .i64 a5),(.bool a6),(slK (kInt .u32) a7),(.int .i64 a8)])]):=cc func327 (by kernel_rfl) rfl fun E=>by
 unfold small_series_7c7a
 refine .g 14 rfl<|.dn (by kernel_rfl)<|.g 5 rfl<|.bind fun x93 h1=>.st rfl (cl (CC.h h1) [0] [] [false] rfl (.p rfl<|.nil) (.p rfl (.i<|.i<|.nil) .nil) fnil (.cons (.v (.i<|.i<|.nil)) .nil) (.int _ _) (.kept rfl .nil) rfl) rfl<|.p0 rfl rfl fun x94 _=>.g 3 rfl<|?_
 refine .cut (fun x:Int × Bool × (List Int) × Int × Bool × (List Int) × Int=>(small_series_7c7a_j1 a2 x.1 x.2.1 x.2.2.1 x.2.2.2.1 x.2.2.2.2.1 x.2.2.2.2.2.1 x.2.2.2.2.2.2,[eP 0 0,eP 6 5,eP 7 6],[(0,(.live 53 [(.int .i64 x.1),(.int .i64 a2)])),(1,(.live 257 [(.fn 337 [] [(.ptr 2 0),(.ptr 3 0)])])),(2,(.live 45 [(.ptr 0 0)])),(3,(.live 30 [(.bool a3),(slK (kInt .u32) a4),(.int .i64 a5),(.bool a6),(slK (kInt .u32) a7),(.int .i64 a8)])),(5,(.live 30 [(.bool false),(slK (kInt .u32) []),(.int .i64 0),(.bool false),(slK (kInt .u32) []),(.int .i64 0)])),(6,(.live 30 [(.bool x.2.1),(slK (kInt .u32) x.2.2.1),(.int .i64 x.2.2.2.1),(.bool x.2.2.2.2.1),(slK (kInt .u32) x.2.2.2.2.2.1),(.int .i64 x.2.2.2.2.2.2)]))])) ?_ ?_
 ·rintro ⟨y135,y136,y137,y138,y139,y140,y141⟩
  dsimp only [small_series_7c7a_j1]
  refine .g 6 rfl<|.bind fun x142 h21=>.st rfl (cl (CC.h h21) [0] [] [false] rfl (.p rfl<|.nil) (.p rfl (.i<|.i<|.nil) .nil) fnil (.cons (.v (.i<|.i<|.nil)) .nil) (.int _ _) (.kept rfl .nil) rfl) rfl<|.g 1 rfl<|.p0 rfl rfl fun x143 _=>.bind fun x144 h23=>.st rfl (cl (CC.h h23) [0] [] [true] rfl (.p rfl<|.a kI<|.a kD<|.nil) (.p rfl (.i<|.i<|.nil) .nil) fnil (.cons (.v (.i<|.i<|.nil)) .nil) (ren_agg (K:=kI) _) (.turned .nil) rfl) rfl<|.g 1 rfl<|.dn (by kernel_rfl)<|.g 2 rfl<|.fi rfl rfl
 ·intro h24
  refine .g 1 rfl<|?_
  refine .lp (fun n (x:Int × Int × Bool × (List Int) × Int × Bool × (List Int) × Int × Bool × (List Int) × Int × Bool × (List Int) × Int)=>small_series_7c7a_l2 x94 a2 a3 a4 a5 a6 a7 a8 n x.1 x.2.1 x.2.2.1 x.2.2.2.1 x.2.2.2.2.1 x.2.2.2.2.2.1 x.2.2.2.2.2.2.1 x.2.2.2.2.2.2.2.1 x.2.2.2.2.2.2.2.2.1 x.2.2.2.2.2.2.2.2.2.1 x.2.2.2.2.2.2.2.2.2.2.1 x.2.2.2.2.2.2.2.2.2.2.2.1 x.2.2.2.2.2.2.2.2.2.2.2.2.1 x.2.2.2.2.2.2.2.2.2.2.2.2.2) (fun x=>([eP 0 0,(2,some (.fn 328 [] [(.ptr 1 0)])),eP 6 5,eP 7 6,eP 8 7,eI 15 x94,eI 16 x.1],[(0,(.live 53 [(.int .i64 x.2.1),(.int .i64 a2)])),(1,(.live 257 [(.fn 337 [] [(.ptr 2 0),(.ptr 3 0)])])),(2,(.live 45 [(.ptr 0 0)])),(3,(.live 30 [(.bool a3),(slK (kInt .u32) a4),(.int .i64 a5),(.bool a6),(slK (kInt .u32) a7),(.int .i64 a8)])),(5,(.live 30 [(.bool false),(slK (kInt .u32) []),(.int .i64 0),(.bool false),(slK (kInt .u32) []),(.int .i64 0)])),(6,(.live 30 [(.bool x.2.2.1),(slK (kInt .u32) x.2.2.2.1),(.int .i64 x.2.2.2.2.1),(.bool x.2.2.2.2.2.1),(slK (kInt .u32) x.2.2.2.2.2.2.1),(.int .i64 x.2.2.2.2.2.2.2.1)])),(7,(.live 30 [(.bool x.2.2.2.2.2.2.2.2.1),(slK (kInt .u32) x.2.2.2.2.2.2.2.2.2.1),(.int .i64 x.2.2.2.2.2.2.2.2.2.2.1),(.bool x.2.2.2.2.2.2.2.2.2.2.2.1),(slK (kInt .u32) x.2.2.2.2.2.2.2.2.2.2.2.2.1),(.int .i64 x.2.2.2.2.2.2.2.2.2.2.2.2.2)]))])) (0,a1,a0.Lo.M.Neg,a0.Lo.M.Mag,a0.Lo.E,a0.Hi.M.Neg,a0.Hi.M.Mag,a0.Hi.E,a0.Lo.M.Neg,a0.Lo.M.Mag,a0.Lo.E,a0.Hi.M.Neg,a0.Hi.M.Mag,a0.Hi.E) [(0,0),(1,1),(2,2),(3,3),(5,5),(6,6),(7,7)] rfl ?_
  rintro n2 ⟨y167,y168,y169,y170,y171,y172,y173,y174,y175,y176,y177,y178,y179,y180⟩
  try dsimp only
  rw [small_series_7c7a_l2]
  refine .g 6 rfl<|?_
  refine .cd rfl (fun _ _=>?_) fun _ _=>?_
  ·refine .g 21 rfl<|.bind fun x183 h41=>.st rfl (cl (CC.h h41) [1,2,0,3] [] [false,false,true,false] rfl (.i<|.a kI<|.p rfl<|.nil) (.p rfl (.cons (ren_fnL _ .nil (.p rfl<|.p rfl<|.nil))<|.nil) (.p rfl (.p rfl<|.nil) (.p rfl (.i<|.i<|.nil) (.p rfl (.b<|.l<|.i<|.b<|.l<|.i<|.nil) .nil)))) fnil (.cons (.v (.cons (ren_fnL _ .nil (.p rfl<|.p rfl<|.nil))<|.nil)) (.cons (.v (.p rfl<|.nil)) (.cons (.v (.i<|.i<|.nil)) (.cons (.v (.b<|.l<|.i<|.b<|.l<|.i<|.nil)) .nil)))) (ren_tupL (.a kI<|.a kI<|.nil)) (.kept rfl (.kept rfl (.turned (.kept rfl .nil)))) rfl) rfl<|.g 11 rfl<|.bind fun x184 h42=>.st rfl (cl (CC.h h42) [0] [] [true] rfl (.p rfl<|.a kI<|.a kI<|.nil) (.p rfl (.i<|.i<|.nil) .nil) fnil (.cons (.v (.i<|.i<|.nil)) .nil) (ren_agg (K:=kI) _) (.turned .nil) rfl) rfl<|.g 8 rfl<|.ag ((IntKind.i64.wrap (y167+1)),x184.2,(((x184.1).Lo).M).Neg,(((x184.1).Lo).M).Mag,((x184.1).Lo).E,(((x184.1).Hi).M).Neg,(((x184.1).Hi).M).Mag,((x184.1).Hi).E,(((x183.1).Lo).M).Neg,(((x183.1).Lo).M).Mag,((x183.1).Lo).E,(((x183.1).Hi).M).Neg,(((x183.1).Hi).M).Mag,((x183.1).Hi).E) [(0,0),(1,1),(2,2),(3,3),(5,5),(6,6),(7,7)] rfl
  ·refine .g 4 rfl<|.jw (h24 (y168,y169,y170,y171,y172,y173,y174)) [(0,0),(1,1),(2,2),(3,3),(5,5),(6,6)] rfl
instance small_plain_fc4a_i (a0:AI) (a1:Int) (a2:Int) (a3:Bool) (a4:List Int) (a5:Int) (a6:Bool) (a7:List Int) (a8:Int):CC (small_plain_fc4a a0 a1 a2 a3 a4 a5 a6 a7 a8) Tryz.prog 271 [(.ptr 0 0),(.agg (kI.enc a0)),(.fn 337 [] [(.ptr 1 0),(.ptr 2 0)])] [(.live 53 [(.int .i64 a1),(.int .i64 a2)]),(.live 45 [(.ptr 0 0)]),(.live 30 [(.bool a3),(slK (kInt .u32) a4),(.int .i64 a5),(.bool a6),(slK (kInt .u32) a7),(.int .i64 a8)])] (fun r=>(.agg (kI.enc (⟨⟨(((r.1).Lo).M),((r.1).Lo).E⟩,⟨(((r.1).Hi).M),((r.1).Hi).E⟩⟩:AI)))) (fun r=>[(.live 53 [(.int .i64 r.2),(.int .i64 a2)]),(.live 45 [(.ptr 0 0)]),(.live 30 [(.bool a3),(slK (kInt .u32) a4),(.int .i64 a5),(.bool a6),(slK (kInt .u32) a7),(.int .i64 a8)])]):=cc func271 (by kernel_rfl) rfl fun E=>by
 unfold small_plain_fc4a
 refine .g 12 rfl<|.bind fun x2 h1=>.st rfl (cl (CC.h h1) [0,4,1,2] [] [true,false,false,false] rfl (.p rfl<|.a kI<|.cons (ren_fnL _ .nil (.p rfl<|.nil))<|.nil) (.p rfl (.i<|.i<|.nil) (.p rfl (.cons (ren_fnL _ .nil (.p rfl<|.p rfl<|.nil))<|.nil) (.p rfl (.p rfl<|.nil) (.p rfl (.b<|.l<|.i<|.b<|.l<|.i<|.nil) .nil)))) fnil (.cons (.v (.i<|.i<|.nil)) (.cons (.v (.cons (ren_fnL _ .nil (.p rfl<|.p rfl<|.nil))<|.nil)) (.cons (.v (.p rfl<|.nil)) (.cons (.v (.b<|.l<|.i<|.b<|.l<|.i<|.nil)) .nil)))) (ren_agg (K:=kI) _) (.turned (.kept rfl (.kept rfl (.kept rfl .nil)))) rfl) rfl<|.g 4 rfl<|.fi rfl rfl
instance small_Cos_i (a0:AI) (a1:Int) (a2:Int):CC (small_Cos a0 a1 a2) Tryz.prog 280 [(.ptr 0 0),(.agg (kI.enc a0))] [(.live 53 [(.int .i64 a1),(.int .i64 a2)])] (fun r=>(.agg (kI.enc (⟨⟨(((r.1).Lo).M),((r.1).Lo).E⟩,⟨(((r.1).Hi).M),((r.1).Hi).E⟩⟩:AI)))) (fun r=>[(.live 53 [(.int .i64 r.2),(.int .i64 a2)])]):=cc func280 (by kernel_rfl) rfl fun E=>by
 unfold small_Cos
 refine .g 12 rfl<|.bind fun x5 h1=>.st rfl (cl (CC.h h1) [0] [] [true] rfl (.p rfl<|.a kI<|.i<|.nil) (.p rfl (.i<|.i<|.nil) .nil) fnil (.cons (.v (.i<|.i<|.nil)) .nil) (.bool _) (.turned .nil) rfl) rfl<|.g 3 rfl<|?_
 refine .cd rfl (fun _ _=>?_) fun _ _=>?_
 ·refine .g 8 rfl<|.fi rfl rfl
 ·refine .g 7 rfl<|.bind fun x6 h4=>.st rfl (cl (CC.h h4) [0] [] [true] rfl (.p rfl<|.a kI<|.a kI<|.nil) (.p rfl (.i<|.i<|.nil) .nil) fnil (.cons (.v (.i<|.i<|.nil)) .nil) (ren_agg (K:=kI) _) (.turned .nil) rfl) rfl<|.g 8 rfl<|.bind fun x7 h5=>.st rfl (cl (CC.h h5) [0] [] [true] rfl (.p rfl<|.i<|.nil) (.p rfl (.i<|.i<|.nil) .nil) fnil (.cons (.v (.i<|.i<|.nil)) .nil) (ren_agg (K:=kI) _) (.turned .nil) rfl) rfl<|.g 1 rfl<|.bind fun x8 h6=>.st rfl (cl (CC.h h6) [0,1,4] [] [true,false,false] rfl (.p rfl<|.a kI<|.cons (ren_fnL _ .nil (.p rfl<|.p rfl<|.nil))<|.nil) (.p rfl (.i<|.i<|.nil) (.p rfl (.p rfl<|.nil) (.p rfl (.b<|.l<|.i<|.b<|.l<|.i<|.nil) .nil))) fnil (.cons (.v (.i<|.i<|.nil)) (.cons (.v (.p rfl<|.nil)) (.cons (.v (.b<|.l<|.i<|.b<|.l<|.i<|.nil)) .nil))) (ren_agg (K:=kI) _) (.turned (.kept rfl (.kept rfl .nil))) rfl) rfl<|.g 1 rfl<|.dn (by kernel_rfl)<|.g 2 rfl<|.fi rfl rfl
instance trig_quarter_i (a0:AD) (a1:Int) (a2:Int):PC (trig_quarter a0 a1 a2) Tryz.prog 193 [(.agg (kD.enc a0)),(.int .i64 a1),(.int .i64 a2)] (fun r=>(.tup [(.agg (kI.enc (⟨⟨(((r.1).Lo).M),((r.1).Lo).E⟩,⟨(((r.1).Hi).M),((r.1).Hi).E⟩⟩:AI))),(.int .i64 r.2)])):=pc func193 (by kernel_rfl) rfl fun E=>by
 unfold trig_quarter
 refine .g 11 rfl<|.p0 rfl rfl fun x27 _=>.g 17 rfl<|?_
 refine .cd rfl (fun _ _=>?_) fun _ _=>?_
 ·refine .g 10 rfl<|.fi rfl rfl
 ·refine .g 6 rfl<|.bind fun x28 h4=>?_
  rcases x28 with x29 | x30
  ·dsimp only
   refine .st rfl (cl (iv_New_k_0 h4) [] [3] [true] rfl (.i<|.nil) .nil (fresh_cons rfl fnil) (.cons .dead .nil) (ren_tupL (.cons .nilptr<|.i<|.nil)) (.turned .nil) rfl) rfl<|.g 18 rfl<|.sv (.sl [[(.fn 279 [] [])],[(.fn 280 [] [])]]) [] rfl (snd_buildSlice _ _ _ 1 _ _ [(0,(.fn 279 [] [])),(1,(.fn 280 [] []))] [[(.fn 279 [] [])],[(.fn 280 [] [])]] rfl underlying293 ze203 si203 rfl rfl rfl (by decide) (by decide) (by decide) rfl rfl (by intro e he; simp at he; rcases he with rfl | rfl<;>rfl) rfl) rfl<|.bind fun x31 h5=>?_
   rcases x31 with x32 | x33
   ·dsimp only
    refine .st rfl (cl (trig_one_func_c_iv_Calc_y_api_Iv_api_Iv_69d9_k_0 h5) [] [] [] rfl (.i<|.cons (ren_slL (.cons (.cons (ren_fnL _ .nil .nil)<|.nil) (.cons (.cons (ren_fnL _ .nil .nil)<|.nil) .nil)))<|.nil) .nil fnil .nil (ren_fnL _ .nil .nil) .nil rfl) rfl<|.g 2 rfl<|.no
   ·dsimp only
    refine .st rfl (cl (trig_one_func_c_iv_Calc_y_api_Iv_api_Iv_69d9_k_1 h5) [] [] [] rfl (.i<|.cons (ren_slL (.cons (.cons (ren_fnL _ .nil .nil)<|.nil) (.cons (.cons (ren_fnL _ .nil .nil)<|.nil) .nil)))<|.nil) .nil fnil .nil (ren_fnL _ .nil .nil) .nil rfl) rfl<|.g 2 rfl<|.no
  ·dsimp only
   refine .st rfl (cl (iv_New_k_1 h4) [] [3] [true] rfl (.i<|.nil) .nil (fresh_cons rfl fnil) (.cons (.v (.i<|.i<|.nil)) .nil) (ren_tupL (.p rfl<|.i<|.nil)) (.turned .nil) rfl) rfl<|.g 18 rfl<|.sv (.sl [[(.fn 279 [] [])],[(.fn 280 [] [])]]) [] rfl (snd_buildSlice _ _ _ 1 _ _ [(0,(.fn 279 [] [])),(1,(.fn 280 [] []))] [[(.fn 279 [] [])],[(.fn 280 [] [])]] rfl underlying293 ze203 si203 rfl rfl rfl (by decide) (by decide) (by decide) rfl rfl (by intro e he; simp at he; rcases he with rfl | rfl<;>rfl) rfl) rfl<|.bind fun x34 h6=>?_
   rcases x34 with x35 | x36
   ·dsimp only
    refine .st rfl (cl (trig_one_func_c_iv_Calc_y_api_Iv_api_Iv_69d9_k_0 h6) [] [] [] rfl (.i<|.cons (ren_slL (.cons (.cons (ren_fnL _ .nil .nil)<|.nil) (.cons (.cons (ren_fnL _ .nil .nil)<|.nil) .nil)))<|.nil) .nil fnil .nil (ren_fnL _ .nil .nil) .nil rfl) rfl<|.g 2 rfl<|.bind fun x37 h7=>.st rfl (cl (CC.h h7) [3] [] [true] rfl (.p rfl<|.a kI<|.nil) (.p rfl (.i<|.i<|.nil) .nil) fnil (.cons (.v (.i<|.i<|.nil)) .nil) (ren_agg (K:=kI) _) (.turned .nil) rfl) rfl<|.g 2 rfl<|.dn (by kernel_rfl)<|.g 8 rfl<|.sv (.sl [[(.fn 282 [] [])],[(.fn 94 [(.ptr 3 0)] [])]]) [] rfl (snd_buildSlice _ _ _ 1 _ _ [(0,(.fn 282 [] [])),(1,(.fn 94 [(.ptr 3 0)] []))] [[(.fn 282 [] [])],[(.fn 94 [(.ptr 3 0)] [])]] rfl underlying295 ze131 si131 rfl rfl rfl (by decide) (by decide) (by decide) rfl rfl (by intro e he; simp at he; rcases he with rfl | rfl<;>rfl) rfl) rfl<|.bind fun x38 h8=>?_
    rcases x38 with x39 | x40
    ·dsimp only
     refine .st rfl (cl (trig_one_func_a_api_Iv_api_Iv_4a04_k_0 h8) [3] [] [false] rfl (.i<|.cons (ren_slL (.cons (.cons (ren_fnL _ .nil .nil)<|.nil) (.cons (.cons (ren_fnL _ (.p rfl<|.nil) .nil)<|.nil) .nil)))<|.nil) (.p rfl (.i<|.i<|.nil) .nil) fnil (.cons (.v (.i<|.i<|.nil)) .nil) (ren_fnL _ .nil .nil) (.kept rfl .nil) rfl) rfl<|.g 1 rfl<|.p0 rfl rfl fun x41 _=>.g 1 rfl<|.bind fun x42 h10=>.st rfl (cl (CC.h h10) [3] [] [false] rfl (.p rfl<|.a kI<|.i<|.nil) (.p rfl (.i<|.i<|.nil) .nil) fnil (.cons (.v (.i<|.i<|.nil)) .nil) (ren_tupL (.a kI<|.i<|.nil)) (.kept rfl .nil) rfl) rfl<|.g 4 rfl<|.dn (by kernel_rfl)<|.g 2 rfl<|.fi rfl rfl
    ·dsimp only
     refine .st rfl (cl (trig_one_func_a_api_Iv_api_Iv_4a04_k_1 h8) [3] [] [false] rfl (.i<|.cons (ren_slL (.cons (.cons (ren_fnL _ .nil .nil)<|.nil) (.cons (.cons (ren_fnL _ (.p rfl<|.nil) .nil)<|.nil) .nil)))<|.nil) (.p rfl (.i<|.i<|.nil) .nil) fnil (.cons (.v (.i<|.i<|.nil)) .nil) (ren_fnL _ (.p rfl<|.nil) .nil) (.kept rfl .nil) rfl) rfl<|.g 1 rfl<|.bind fun x43 h11=>.st rfl (cl (CC.h h11) [3] [] [true] rfl (.p rfl<|.a kI<|.nil) (.p rfl (.i<|.i<|.nil) .nil) fnil (.cons (.v (.i<|.i<|.nil)) .nil) (ren_agg (K:=kI) _) (.turned .nil) rfl) rfl<|.g 1 rfl<|.bind fun x44 h12=>.st rfl (cl (CC.h h12) [3] [] [false] rfl (.p rfl<|.a kI<|.i<|.nil) (.p rfl (.i<|.i<|.nil) .nil) fnil (.cons (.v (.i<|.i<|.nil)) .nil) (ren_tupL (.a kI<|.i<|.nil)) (.kept rfl .nil) rfl) rfl<|.g 4 rfl<|.dn (by kernel_rfl)<|.g 2 rfl<|.fi rfl rfl
   ·dsimp only
    refine .st rfl (cl (trig_one_func_c_iv_Calc_y_api_Iv_api_Iv_69d9_k_1 h6) [] [] [] rfl (.i<|.cons (ren_slL (.cons (.cons (ren_fnL _ .nil .nil)<|.nil) (.cons (.cons (ren_fnL _ .nil .nil)<|.nil) .nil)))<|.nil) .nil fnil .nil (ren_fnL _ .nil .nil) .nil rfl) rfl<|.g 2 rfl<|.bind fun x45 h13=>.st rfl (cl (CC.h h13) [3] [] [true] rfl (.p rfl<|.a kI<|.nil) (.p rfl (.i<|.i<|.nil) .nil) fnil (.cons (.v (.i<|.i<|.nil)) .nil) (ren_agg (K:=kI) _) (.turned .nil) rfl) rfl<|.g 2 rfl<|.dn (by kernel_rfl)<|.g 8 rfl<|.sv (.sl [[(.fn 282 [] [])],[(.fn 94 [(.ptr 3 0)] [])]]) [] rfl (snd_buildSlice _ _ _ 1 _ _ [(0,(.fn 282 [] [])),(1,(.fn 94 [(.ptr 3 0)] []))] [[(.fn 282 [] [])],[(.fn 94 [(.ptr 3 0)] [])]] rfl underlying295 ze131 si131 rfl rfl rfl (by decide) (by decide) (by decide) rfl rfl (by intro e he; simp at he; rcases he with rfl | rfl<;>rfl) rfl) rfl<|.bind fun x46 h14=>?_
    rcases x46 with x47 | x48
    ·dsimp only
     refine .st rfl (cl (trig_one_func_a_api_Iv_api_Iv_4a04_k_0 h14) [3] [] [false] rfl (.i<|.cons (ren_slL (.cons (.cons (ren_fnL _ .nil .nil)<|.nil) (.cons (.cons (ren_fnL _ (.p rfl<|.nil) .nil)<|.nil) .nil)))<|.nil) (.p rfl (.i<|.i<|.nil) .nil) fnil (.cons (.v (.i<|.i<|.nil)) .nil) (ren_fnL _ .nil .nil) (.kept rfl .nil) rfl) rfl<|.g 1 rfl<|.p0 rfl rfl fun x49 _=>.g 1 rfl<|.bind fun x50 h16=>.st rfl (cl (CC.h h16) [3] [] [false] rfl (.p rfl<|.a kI<|.i<|.nil) (.p rfl (.i<|.i<|.nil) .nil) fnil (.cons (.v (.i<|.i<|.nil)) .nil) (ren_tupL (.a kI<|.i<|.nil)) (.kept rfl .nil) rfl) rfl<|.g 4 rfl<|.dn (by kernel_rfl)<|.g 2 rfl<|.fi rfl rfl
    ·dsimp only
     refine .st rfl (cl (trig_one_func_a_api_Iv_api_Iv_4a04_k_1 h14) [3] [] [false] rfl (.i<|.cons (ren_slL (.cons (.cons (ren_fnL _ .nil .nil)<|.nil) (.cons (.cons (ren_fnL _ (.p rfl<|.nil) .nil)<|.nil) .nil)))<|.nil) (.p rfl (.i<|.i<|.nil) .nil) fnil (.cons (.v (.i<|.i<|.nil)) .nil) (ren_fnL _ (.p rfl<|.nil) .nil) (.kept rfl .nil) rfl) rfl<|.g 1 rfl<|.bind fun x51 h17=>.st rfl (cl (CC.h h17) [3] [] [true] rfl (.p rfl<|.a kI<|.nil) (.p rfl (.i<|.i<|.nil) .nil) fnil (.cons (.v (.i<|.i<|.nil)) .nil) (ren_agg (K:=kI) _) (.turned .nil) rfl) rfl<|.g 1 rfl<|.bind fun x52 h18=>.st rfl (cl (CC.h h18) [3] [] [false] rfl (.p rfl<|.a kI<|.i<|.nil) (.p rfl (.i<|.i<|.nil) .nil) fnil (.cons (.v (.i<|.i<|.nil)) .nil) (ren_tupL (.a kI<|.i<|.nil)) (.kept rfl .nil) rfl) rfl<|.g 4 rfl<|.dn (by kernel_rfl)<|.g 2 rfl<|.fi rfl rfl
instance trig_Cos_i (a0:AD) (a1:Int):PC (trig_Cos a0 a1) Tryz.prog 101 [(.agg (kD.enc a0)),(.int .i64 a1)] (fun r=>(.tup [(.agg (kI.enc (⟨⟨(((r.1).Lo).M),((r.1).Lo).E⟩,⟨(((r.1).Hi).M),((r.1).Hi).E⟩⟩:AI))),(.int .i64 r.2)])):=pc func101 (by kernel_rfl) rfl fun E=>by
 unfold trig_Cos
 refine .g 11 rfl<|.p0 rfl rfl fun x2 _=>.g 7 rfl<|.fi rfl rfl
instance cheb_Node_i (a0:Int) (a1:Int):PC (cheb_Node a0 a1) Tryz.prog 37 [(.int .i64 a0),(.int .i64 a1)] (fun r=>(.tup [(.agg (kD.enc (⟨((r.1).M),(r.1).E⟩:AD))),(.int .i64 r.2)])):=pc func37 (by kernel_rfl) rfl fun E=>by
 unfold cheb_Node
 refine .g 8 rfl<|?_
 refine .cut (fun x:Bool=>(cheb_Node_j1 a0 a1 x,[eI 0 a0,eI 1 a1,eP 4 0,eB 23 x],[(0,(.live 26 [(.bool false),(slK (kInt .u32) []),(.int .i64 0)]))])) ?_ ?_
 ·rintro y18
  dsimp only [cheb_Node_j1]
  refine .g 1 rfl<|?_
  refine .cd rfl (fun _ _=>?_) fun _ _=>?_
  ·refine .g 9 rfl<|.fi rfl rfl
  ·refine .g 4 rfl<|.bind fun x19 h6=>?_
   rcases x19 with x20 | x21
   ·dsimp only
    refine .st rfl (cl (iv_New_k_0 h6) [] [1] [true] rfl (.i<|.nil) .nil (fresh_cons rfl fnil) (.cons .dead .nil) (ren_tupL (.cons .nilptr<|.i<|.nil)) (.turned .nil) rfl) rfl<|.g 13 rfl<|.no
   ·dsimp only
    refine .st rfl (cl (iv_New_k_1 h6) [] [1] [true] rfl (.i<|.nil) .nil (fresh_cons rfl fnil) (.cons (.v (.i<|.i<|.nil)) .nil) (ren_tupL (.p rfl<|.i<|.nil)) (.turned .nil) rfl) rfl<|.g 13 rfl<|.bind fun x22 h7=>.st rfl (cl (CC.h h7) [1] [] [true] rfl (.p rfl<|.nil) (.p rfl (.i<|.i<|.nil) .nil) fnil (.cons (.v (.i<|.i<|.nil)) .nil) (ren_agg (K:=kI) _) (.turned .nil) rfl) rfl<|.g 4 rfl<|.bind fun x23 h8=>.st rfl (cl (CC.h h8) [1] [] [true] rfl (.p rfl<|.i<|.nil) (.p rfl (.i<|.i<|.nil) .nil) fnil (.cons (.v (.i<|.i<|.nil)) .nil) (ren_agg (K:=kI) _) (.turned .nil) rfl) rfl<|.bind fun x24 h9=>.st rfl (cl (CC.h h9) [1] [] [true] rfl (.p rfl<|.a kI<|.a kI<|.nil) (.p rfl (.i<|.i<|.nil) .nil) fnil (.cons (.v (.i<|.i<|.nil)) .nil) (ren_agg (K:=kI) _) (.turned .nil) rfl) rfl<|.g 4 rfl<|.bind fun x25 h10=>.st rfl (cl (CC.h h10) [1] [] [true] rfl (.p rfl<|.i<|.nil) (.p rfl (.i<|.i<|.nil) .nil) fnil (.cons (.v (.i<|.i<|.nil)) .nil) (ren_agg (K:=kI) _) (.turned .nil) rfl) rfl<|.bind fun x26 h11=>.st rfl (cl (CC.h h11) [1] [] [true] rfl (.p rfl<|.a kI<|.a kI<|.nil) (.p rfl (.i<|.i<|.nil) .nil) fnil (.cons (.v (.i<|.i<|.nil)) .nil) (ren_agg (K:=kI) _) (.turned .nil) rfl) rfl<|?_
    refine .bind fun x27 h12=>.st rfl (cl (CC.h h12) [1] [] [true] rfl (.p rfl<|.a kI<|.nil) (.p rfl (.i<|.i<|.nil) .nil) fnil (.cons (.v (.i<|.i<|.nil)) .nil) (ren_agg (K:=kD) _) (.turned .nil) rfl) rfl<|.g 10 rfl<|.bind fun x28 h13=>.st rfl (cl (CC.h h13) [1] [] [false] rfl (.p rfl<|.nil) (.p rfl (.i<|.i<|.nil) .nil) fnil (.cons (.v (.i<|.i<|.nil)) .nil) (.int _ _) (.kept rfl .nil) rfl) rfl<|.g 9 rfl<|?_
    refine .cd rfl (fun _ _=>?_) fun _ _=>?_
    ·refine .g 10 rfl<|.fi rfl rfl
    ·refine .g 5 rfl<|.p0 rfl rfl fun x29 _=>.g 15 rfl<|?_
     refine .cd rfl (fun _ _=>?_) fun _ _=>?_
     ·refine .g 10 rfl<|.fi rfl rfl
     ·refine .g 6 rfl<|.bind fun x30 h19=>.st rfl (cl (CC.h h19) [1] [] [true] rfl (.p rfl<|.a kI<|.nil) (.p rfl (.i<|.i<|.nil) .nil) fnil (.cons (.v (.i<|.i<|.nil)) .nil) (ren_agg (K:=kD) _) (.turned .nil) rfl) rfl<|.g 3 rfl<|.bind fun x31 h20=>.st rfl (cl (CC.h h20) [1] [] [false] rfl (.p rfl<|.nil) (.p rfl (.i<|.i<|.nil) .nil) fnil (.cons (.v (.i<|.i<|.nil)) .nil) (.int _ _) (.kept rfl .nil) rfl) rfl<|.g 2 rfl<|.dn (by kernel_rfl)<|.g 2 rfl<|.fi rfl rfl
 ·intro h21
  refine .g 2 rfl<|.p0 rfl rfl fun x32 _=>.g 2 rfl<|?_
  refine .gd 15 rfl (fun _=>?_) fun _=>?_
  ·refine .g 9 rfl<|.jw (h21 true) [(0,0)] rfl
  ·refine .g 4 rfl<|?_
   refine .gd 19 rfl (fun _=>?_) fun _=>?_
   ·refine .g 5 rfl<|.jw (h21 true) [(0,0)] rfl
   ·refine .g 5 rfl<|.jw (h21 (decide (a0>a1))) [(0,0)] rfl
instance r01_Trim_i (a0:List Int):PC (r01_Trim a0) Tryz.prog 129 [(slK (kInt .u32) a0)] (fun r=>(slK (kInt .u32) r)):=pc func129 (by kernel_rfl) rfl fun E=>by
 unfold r01_Trim
 refine .g 8 rfl<|.ln rfl rfl<|.g 4 rfl<|?_
 refine .cut (fun x:Int=>(r01_Trim_j1 a0 x,[eL 0 a0,eI 3 x],[])) ?_ ?_
 ·rintro y17
  dsimp only [r01_Trim_j1]
  refine .g 11 rfl<|.guard fun h19=>.sv (slK (kInt .u32) (a0.take y17.toNat)) [] rfl (snd_sliceK (kInt .u32) _ _ _ _ _ _ 0 y17 rfl underlying22 si117 rfl rfl rfl rfl rfl h19) rfl<|.guard fun h20=>.sv (grA (kInt .u32) 0 (a0.take y17.toNat)) [(0,(grV (kInt .u32) 117 (a0.take y17.toNat)))] rfl (snd_appendK_nil0 (kInt .u32) _ _ _ _ _ 0 (a0.take y17.toNat) rfl underlying22 ze117 sb117 rfl rfl rfl rfl rfl h20) rfl<|.g 4 rfl<|?_
  refine .weak ?_ (fun a w h=>Conc.gr_still (kInt .u32) h 2 0 117 (a0.take y17.toNat) rfl rfl)
  exact .fi rfl rfl
 ·intro h21
  refine .g 1 rfl<|?_
  refine .lp (fun n (x:Int)=>r01_Trim_l2 a0 n x) (fun x=>([eL 0 a0,eI 3 x],[])) (a0.length:Int) [] rfl ?_
  rintro n2 y21
  try dsimp only
  rw [r01_Trim_l2]
  refine .g 2 rfl<|?_
  refine .cut (fun x:Bool=>(r01_Trim_j3 (fun z0=>r01_Trim_l2 a0 n2 z0) y21 a0 x,[eL 0 a0,eI 3 y21,eB 16 x],[])) ?_ ?_
  ·rintro y22
   dsimp only [r01_Trim_j3]
   refine .g 1 rfl<|?_
   refine .cd rfl (fun _ _=>?_) fun _ _=>?_
   ·refine .g 9 rfl<|.ag (IntKind.i64.wrap (y21-1)) [] rfl
   ·refine .g 4 rfl<|.jw (h21 y21) [] rfl
  ·intro h38
   refine .g 4 rfl<|?_
   refine .gd 9 rfl (fun _=>?_) fun _=>?_
   ·refine .g 3 rfl<|.ix rfl rfl<|.g 4 rfl<|.jw (h38 ((a0.getD ((IntKind.i64.wrap (y21-1)).toNat) (kInt .u32).z) == 0)) [] rfl
   ·refine .g 8 rfl<|.jw (h38 false) [] rfl
instance r01_From_i (a0:Int):PC (r01_From a0) Tryz.prog 139 [(.int .u64 a0)] (fun r=>(slK (kInt .u32) r)):=pc func139 (by kernel_rfl) rfl fun E=>by
 unfold r01_From
 refine .g 2 rfl<|.st rfl (as0 rfl) rfl<|.g 9 rfl<|.st rfl (bs (kInt .u32) [(IntKind.u32.wrap a0),(IntKind.u32.wrap (shrI .u64 a0 32))] rfl rfl) rfl<|.p0 rfl rfl fun x2 _=>.g 4 rfl<|.fi rfl rfl
instance r04_Make_i (a0:Bool) (a1:List Int):PC (r04_Make a0 a1) Tryz.prog 48 [(.bool a0),(slK (kInt .u32) a1)] (fun r=>(.agg (kN.enc (r)))):=pc func48 (by kernel_rfl) rfl fun E=>by
 unfold r04_Make
 refine .g 8 rfl<|.p0 rfl rfl fun x3 _=>.g 4 rfl<|?_
 refine .cut (fun x:Bool=>(r04_Make_j1 x3 x,[eP 4 0],[(0,(.live 24 [(.bool x),(slK (kInt .u32) x3)]))])) ?_ ?_
 ·rintro y4
  dsimp only [r04_Make_j1]
  refine .g 2 rfl<|.fi rfl rfl
 ·intro h3
  refine .g 3 rfl<|?_
  refine .gd 9 rfl (fun _=>?_) fun _=>?_
  ·refine .g 1 rfl<|.ln rfl rfl<|.g 6 rfl<|.jw (h3 (decide ((x3.length:Int)>0))) [(0,0)] rfl
  ·refine .g 8 rfl<|.jw (h3 false) [(0,0)] rfl
instance r04_From_i (a0:Int):PC (r04_From a0) Tryz.prog 56 [(.int .i64 a0)] (fun r=>(.agg (kN.enc (r)))):=pc func56 (by kernel_rfl) rfl fun E=>by
 unfold r04_From
 refine .g 12 rfl<|?_
 refine .cd rfl (fun _ _=>?_) fun _ _=>?_
 ·refine .g 7 rfl<|.p0 rfl rfl fun x5 _=>.p0 rfl rfl fun x6 _=>.g 5 rfl<|.fi rfl rfl
 ·refine .g 6 rfl<|.p0 rfl rfl fun x7 _=>.p0 rfl rfl fun x8 _=>.g 4 rfl<|.fi rfl rfl
instance r01_Bit_i (a0:List Int) (a1:Int):PC (r01_Bit a0 a1) Tryz.prog 220 [(slK (kInt .u32) a0),(.int .i64 a1)] (fun r=>(.bool r)):=pc func220 (by kernel_rfl) rfl fun E=>by
 unfold r01_Bit
 refine .g 7 rfl<|?_
 refine .cut (fun x:Bool=>(r01_Bit_j1 a1 a0 x,[eL 0 a0,eI 1 a1,eB 13 x],[])) ?_ ?_
 ·rintro y2
  dsimp only [r01_Bit_j1]
  refine .g 1 rfl<|?_
  refine .cd rfl (fun _ _=>?_) fun _ _=>?_
  ·refine .g 7 rfl<|.fi rfl rfl
  ·refine .g 7 rfl<|.ix rfl rfl<|.g 3 rfl<|.guard fun h5=>.st rfl (snd_shr _ _ _ _ _ _ _ _ rfl rfl rfl rfl rfl h5) rfl<|.g 6 rfl<|.fi rfl rfl
 ·intro h6
  refine .g 4 rfl<|?_
  refine .gd 7 rfl (fun _=>?_) fun _=>?_
  ·refine .g 7 rfl<|.jw (h6 true) [] rfl
  ·refine .g 3 rfl<|.ln rfl rfl<|.g 3 rfl<|.jw (h6 (decide ((IntKind.i64.wrap (a1.tdiv 32))≥(a0.length:Int)))) [] rfl
instance r01_at_i (a0:List Int) (a1:Int):PC (r01_at a0 a1) Tryz.prog 300 [(slK (kInt .u32) a0),(.int .i64 a1)] (fun r=>(.int .u64 r)):=pc func300 (by kernel_rfl) rfl fun E=>by
 unfold r01_at
 refine .g 10 rfl<|.ln rfl rfl<|.g 3 rfl<|?_
 refine .cd rfl (fun _ _=>?_) fun _ _=>?_
 ·refine .g 7 rfl<|.fi rfl rfl
 ·refine .g 6 rfl<|.ix rfl rfl<|.g 6 rfl<|.fi rfl rfl
instance r01_Shr_i (a0:List Int) (a1:Int):PC (r01_Shr a0 a1) Tryz.prog 221 [(slK (kInt .u32) a0),(.int .i64 a1)] (fun r=>(slK (kInt .u32) r)):=pc func221 (by kernel_rfl) rfl fun E=>by
 unfold r01_Shr
 refine .g 12 rfl<|?_
 refine .cd rfl (fun _ _=>?_) fun _ _=>?_
 ·refine .g 3 rfl<|.p0 rfl rfl fun x36 _=>.g 5 rfl<|.fi rfl rfl
 ·refine .g 8 rfl<|.ln rfl rfl<|.g 3 rfl<|?_
  refine .cd rfl (fun _ _=>?_) fun _ _=>?_
  ·refine .g 7 rfl<|.fj rfl rfl (by exact AVle.nil)
  ·refine .g 15 rfl<|?_
   refine .cut (fun x:(List Int)=>(r01_Shr_j1 x,[(5,some (grA (kInt .u32) 0 x))],[(0,(grV (kInt .u32) 117 x))])) ?_ ?_
   ·rintro y53
    dsimp only [r01_Shr_j1]
    refine .g 2 rfl<|?_
    refine .weak ?_ (fun a w h=>Conc.gr_still (kInt .u32) h 5 0 117 y53 rfl rfl)
    refine .g 2 rfl<|.p0 rfl rfl fun x54 _=>.g 4 rfl<|.fi rfl rfl
   ·intro h37
    refine .g 1 rfl<|?_
    refine .weak ?_ (fun a w h=>Conc.gr_nil (kInt .u32) h 5 0 117 rfl)
    refine .lo (fun n (x:Int × (List Int))=>r01_Shr_l2 a0 a1 n x.1 x.2) (fun x=>([eL 0 a0,eI 1 a1,(5,some (grA (kInt .u32) 0 x.2)),eI 6 x.1],[(0,(grV (kInt .u32) 117 x.2))])) ((IntKind.i64.wrap (a1.tdiv 32)),[]) rfl (fun hE=>jn (m:=0) [(0,0)] hE (.l rfl<|.i rfl<|.g rfl (ren_gr (K:=(kInt .u32)) (by rfl) [])<|.i rfl<|.nil) (.cons (.refl _) (renV_gr (K:=(kInt .u32)) 117 [])<|.nil) rfl) ?_
    rintro n2 ⟨y65,y66⟩
    try dsimp only
    rw [r01_Shr_l2]
    refine .g 5 rfl<|.ln rfl rfl<|.g 3 rfl<|?_
    refine .cd rfl (fun _ _=>?_) fun _ _=>?_
    ·refine .g 8 rfl<|.p0 rfl rfl fun x69 _=>.g 3 rfl<|.p0 rfl rfl fun x70 _=>.g 10 rfl<|.guard fun h66=>.st rfl (snd_shr _ _ _ _ _ _ _ _ rfl rfl rfl rfl rfl h66) rfl<|.g 1 rfl<|.st rfl (bs (kInt .u32) [(IntKind.u32.wrap (shrI .u64 (orI .u64 x69 (shlI .u64 x70 32)) (a1.tmod 32)))] rfl rfl) rfl<|.guard fun h67=>.sv (.row 1 (kInt .u32).sz 0 (((y66++[(IntKind.u32.wrap (shrI .u64 (orI .u64 x69 (shlI .u64 x70 32)) (a1.tmod 32)))])).length)) [(1,(rwK (kInt .u32) 117 (y66++[(IntKind.u32.wrap (shrI .u64 (orI .u64 x69 (shlI .u64 x70 32)) (a1.tmod 32)))]))),(0,.dead)] rfl (snd_appendK_gr (kInt .u32) _ _ _ _ _ 0 1 y66 [(IntKind.u32.wrap (shrI .u64 (orI .u64 x69 (shlI .u64 x70 32)) (a1.tmod 32)))] rfl underlying22 ze117 sb117 rfl rfl rfl rfl rfl rfl rfl h67) rfl<|.g 9 rfl<|?_
     refine .weak ?_ (fun a w h=>Conc.gr_row (kInt .u32) h 5 1 117 (y66++[(IntKind.u32.wrap (shrI .u64 (orI .u64 x69 (shlI .u64 x70 32)) (a1.tmod 32)))]) rfl rfl (by first | omega | (simp only [List.length_append,List.length_cons,List.length_set]; omega) | simp))
     exact .ao ((IntKind.i64.wrap (y65+1)),(y66++[(IntKind.u32.wrap (shrI .u64 (orI .u64 x69 (shlI .u64 x70 32)) (a1.tmod 32)))])) rfl fun hE=>jn (m:=0) [(1,0)] hE (.l rfl<|.i rfl<|.g rfl (ren_gr (K:=(kInt .u32)) (by rfl) (y66++[(IntKind.u32.wrap (shrI .u64 (orI .u64 x69 (shlI .u64 x70 32)) (a1.tmod 32)))]))<|.i rfl<|.nil) (.cons (.refl _) (renV_gr (K:=(kInt .u32)) 117 (y66++[(IntKind.u32.wrap (shrI .u64 (orI .u64 x69 (shlI .u64 x70 32)) (a1.tmod 32)))]))<|.nil) rfl
    ·refine .g 4 rfl<|.jo (h37 y66) rfl fun hE=>jn (m:=0) [(0,0)] hE (.g rfl (ren_gr (K:=(kInt .u32)) (by rfl) y66)<|.nil) (.cons (.refl _) (renV_gr (K:=(kInt .u32)) 117 y66)<|.nil) rfl
instance r05_norm_i (a0:ApiInt) (a1:Int):PC (r05_norm a0 a1) Tryz.prog 127 [(.agg (kN.enc a0)),(.int .i64 a1)] (fun r=>(.agg (kD.enc (⟨((r).M),(r).E⟩:AD)))):=pc func127 (by kernel_rfl) rfl fun E=>by
 unfold r05_norm
 refine .g 12 rfl<|.p0 rfl rfl fun x15 _=>.g 9 rfl<|.ln rfl rfl<|.g 3 rfl<|?_
 refine .cd rfl (fun _ _=>?_) fun _ _=>?_
 ·refine .g 8 rfl<|.fi rfl rfl
 ·refine .g 8 rfl<|?_
  refine .cut (fun x:Int=>(r05_norm_j1 x15 a1 x,[eI 1 a1,eP 4 1,eP 5 2,eI 6 x],[(1,(.live 26 [(.bool false),(slK (kInt .u32) []),(.int .i64 0)])),(2,(.live 24 [(.bool ((x15).Neg)),(slK (kInt .u32) ((x15).Mag))]))])) ?_ ?_
  ·rintro y21
   dsimp only [r05_norm_j1]
   refine .g 8 rfl<|.p0 rfl rfl fun x22 _=>.p0 rfl rfl fun x23 _=>.g 5 rfl<|.dn (by kernel_rfl)<|.g 2 rfl<|.fi rfl rfl
  ·intro h15
   refine .g 1 rfl<|?_
   refine .lp (fun n (x:Int)=>r05_norm_l2 x15 a1 n x) (fun x=>([eI 1 a1,eP 4 1,eP 5 2,eI 6 x],[(1,(.live 26 [(.bool false),(slK (kInt .u32) []),(.int .i64 0)])),(2,(.live 24 [(.bool ((x15).Neg)),(slK (kInt .u32) ((x15).Mag))]))])) 0 [(1,1),(2,2)] rfl ?_
   rintro n2 y27
   try dsimp only
   rw [r05_norm_l2]
   refine .g 6 rfl<|.p0 rfl rfl fun x28 _=>.g 3 rfl<|?_
   refine .cd rfl (fun _ _=>?_) fun _ _=>?_
   ·refine .g 9 rfl<|.ag (IntKind.i64.wrap (y27+1)) [(1,1),(2,2)] rfl
   ·refine .g 4 rfl<|.jw (h15 y27) [(1,1),(2,2)] rfl
instance r05_From_i (a0:Int):PC (r05_From a0) Tryz.prog 63 [(.int .i64 a0)] (fun r=>(.agg (kD.enc (⟨((r).M),(r).E⟩:AD)))):=pc func63 (by kernel_rfl) rfl fun E=>by
 unfold r05_From
 refine .g 8 rfl<|.p0 rfl rfl fun x3 _=>.p0 rfl rfl fun x4 _=>.g 4 rfl<|.fi rfl rfl
instance slices_Reverse_cheb_part_cheb_part_i (a0:List ChebPart):PC (slices_Reverse_cheb_part_cheb_part a0) Tryz.prog 219 [(slK kChebPart a0)] (fun r=>(.tup [])):=pc func219 (by kernel_rfl) rfl fun E=>by
 unfold slices_Reverse_cheb_part_cheb_part
 refine .g 3 rfl<|.ln rfl rfl<|.g 5 rfl<|?_
 refine .cut (fun x:Unit=>(slices_Reverse_cheb_part_cheb_part_j1,[],[])) ?_ ?_
 ·rintro _
  dsimp only [slices_Reverse_cheb_part_cheb_part_j1]
  exact .fi rfl rfl
 ·intro h17
  refine .g 1 rfl<|?_
  refine .lp (fun n (x:Unit)=>slices_Reverse_cheb_part_cheb_part_l2 a0 n) (fun x=>([eK kChebPart 0 a0,eI 2 0,eI 3 (IntKind.i64.wrap ((a0.length:Int)-1))],[])) () [] rfl ?_
  rintro n2 _
  try dsimp only
  rw [slices_Reverse_cheb_part_cheb_part_l2]
  refine .g 8 rfl<|?_
  refine .cd rfl (fun _ _=>?_) fun _ _=>?_
  ·refine .g 11 rfl<|.ix rfl rfl<|.g 3 rfl<|.ix rfl rfl<|.g 1 rfl<|.ix rfl rfl<|.no
  ·refine .g 4 rfl<|.jw (h17 ()) [] rfl
instance cheb_queue_add_6495_i (a0:List ChebPart):CC (cheb_queue_add_6495 a0) Tryz.prog 124 [(.ptr 0 0),(slK kChebPart a0)] [(.live 163 [.nilsl])] (fun r=>(.tup [])) (fun r=>[(.live 163 [(slK kChebPart r)])]):=cc func124 (by kernel_rfl) rfl fun E=>by
 unfold cheb_queue_add_6495
 refine .g 3 rfl<|.p0 rfl rfl fun x2 _=>.g 8 rfl<|.guard fun h2=>.sv (.row 1 kChebPart.sz 0 ((a0).length)) [(1,(rwK kChebPart 166 a0))] rfl (snd_appendK_nilU kChebPart _ _ _ _ _ _ 1 a0 rfl underlying163 underlying162 ze166 sb166 rfl rfl rfl rfl rfl h2) rfl<|.g 1 rfl<|?_
 refine .weak ?_ (fun a w h=>Conc.freezeK kChebPart h 11 1 0 ((a0).length) 166 a0 rfl rfl (by omega))
 refine .weak ?_ (fun a w h=>take_all h)
 refine .g 2 rfl<|.fi rfl rfl
instance cheb_queue_next_i (a0:List ChebPart):CC (cheb_queue_next a0) Tryz.prog 125 [(.ptr 0 0)] [(.live 163 [(slK kChebPart a0)])] (fun r=>(.agg (kChebPart.enc (⟨⟨(((r.1).a).M),((r.1).a).E⟩,(r.1).w⟩:ChebPart)))) (fun r=>[(.live 163 [(slK kChebPart r.2)])]):=cc func125 (by kernel_rfl) rfl fun E=>by
 unfold cheb_queue_next
 refine .g 17 rfl<|.ln rfl rfl<|.g 1 rfl<|.ix rfl rfl<|.g 10 rfl<|.ln rfl rfl<|.g 1 rfl<|.guard fun h2=>.sv (slK kChebPart (a0.take ((IntKind.i64.wrap ((a0.length:Int)-1)).toNat))) [] rfl (snd_sliceK kChebPart _ _ _ _ _ _ 0 (IntKind.i64.wrap ((a0.length:Int)-1)) rfl underlying163 si166 rfl rfl rfl rfl rfl h2) rfl<|.g 11 rfl<|.fi rfl rfl
instance cheb_stretch_i (a0:Int):PC (cheb_stretch a0) Tryz.prog 110 [(.int .i64 a0)] (fun r=>(.bool r)):=pc func110 (by kernel_rfl) rfl fun E=>by
 unfold cheb_stretch
 refine .g 6 rfl<|?_
 refine .cut (fun x:Bool=>(cheb_stretch_j1 x,[eB 2 x],[])) ?_ ?_
 ·rintro y2
  dsimp only [cheb_stretch_j1]
  refine .g 2 rfl<|.fi rfl rfl
 ·intro h2
  refine .g 4 rfl<|?_
  refine .gd 5 rfl (fun _=>?_) fun _=>?_
  ·refine .g 5 rfl<|.jw (h2 (decide (a0≤10))) [] rfl
  ·refine .g 5 rfl<|.jw (h2 false) [] rfl
instance cheb_plain_i (a0:AD):PC (cheb_plain a0) Tryz.prog 111 [(.agg (kD.enc a0))] (fun r=>(.bool r)):=pc func111 (by kernel_rfl) rfl fun E=>by
 unfold cheb_plain
 refine .g 9 rfl<|.p0 rfl rfl fun x5 _=>.g 8 rfl<|?_
 refine .cut (fun x:Bool=>(cheb_plain_j1 x,[eB 2 x],[])) ?_ ?_
 ·rintro y7
  dsimp only [cheb_plain_j1]
  refine .g 2 rfl<|.fi rfl rfl
 ·intro h6
  refine .g 2 rfl<|.p0 rfl rfl fun x8 _=>.g 1 rfl<|?_
  refine .gd 12 rfl (fun _=>?_) fun _=>?_
  ·refine .g 3 rfl<|?_
   refine .gd 15 rfl (fun _=>?_) fun _=>?_
   ·refine .g 11 rfl<|.jw (h6 true) [] rfl
   ·refine .g 4 rfl<|?_
    refine .gd 19 rfl (fun _=>?_) fun _=>?_
    ·refine .g 7 rfl<|.jw (h6 (decide (x5.1≤16))) [] rfl
    ·refine .g 7 rfl<|.jw (h6 false) [] rfl
  ·refine .g 14 rfl<|.jw (h6 false) [] rfl
instance fun_plain_e0f3_i:PC (fun_plain_e0f3) Tryz.prog 147 [(.fn 85 [] [])] (fun r=>(.fn 229 [] [(.iptr [(.fn 85 [] [])])])):=pc func147 (by kernel_rfl) rfl fun E=>by
 unfold fun_plain_e0f3
 refine .g 2 rfl<|.st rfl (bxi rfl) rfl<|.g 10 rfl<|.fi rfl rfl
instance fun_plain_651d_i:PC (fun_plain_651d) Tryz.prog 147 [(.fn 148 [] [])] (fun r=>(.fn 229 [] [(.iptr [(.fn 148 [] [])])])):=pc func147 (by kernel_rfl) rfl fun E=>by
 unfold fun_plain_651d
 refine .g 2 rfl<|.st rfl (bxi rfl) rfl<|.g 10 rfl<|.fi rfl rfl
instance fun_plain_dae2_i:PC (fun_plain_dae2) Tryz.prog 147 [(.fn 149 [] [])] (fun r=>(.fn 229 [] [(.iptr [(.fn 149 [] [])])])):=pc func147 (by kernel_rfl) rfl fun E=>by
 unfold fun_plain_dae2
 refine .g 2 rfl<|.st rfl (bxi rfl) rfl<|.g 10 rfl<|.fi rfl rfl
instance fun_plain_6b09_i:PC (fun_plain_6b09) Tryz.prog 147 [(.fn 101 [] [])] (fun r=>(.fn 229 [] [(.iptr [(.fn 101 [] [])])])):=pc func147 (by kernel_rfl) rfl fun E=>by
 unfold fun_plain_6b09
 refine .g 2 rfl<|.st rfl (bxi rfl) rfl<|.g 10 rfl<|.fi rfl rfl
instance fun_plain_ece2_i:PC (fun_plain_ece2) Tryz.prog 147 [(.fn 150 [] [])] (fun r=>(.fn 229 [] [(.iptr [(.fn 150 [] [])])])):=pc func147 (by kernel_rfl) rfl fun E=>by
 unfold fun_plain_ece2
 refine .g 2 rfl<|.st rfl (bxi rfl) rfl<|.g 10 rfl<|.fi rfl rfl
instance fun_plain_37dd_i:PC (fun_plain_37dd) Tryz.prog 147 [(.fn 151 [] [])] (fun r=>(.fn 229 [] [(.iptr [(.fn 151 [] [])])])):=pc func147 (by kernel_rfl) rfl fun E=>by
 unfold fun_plain_37dd
 refine .g 2 rfl<|.st rfl (bxi rfl) rfl<|.g 10 rfl<|.fi rfl rfl
instance fun_plain_ceff_i:PC (fun_plain_ceff) Tryz.prog 147 [(.fn 152 [] [])] (fun r=>(.fn 229 [] [(.iptr [(.fn 152 [] [])])])):=pc func147 (by kernel_rfl) rfl fun E=>by
 unfold fun_plain_ceff
 refine .g 2 rfl<|.st rfl (bxi rfl) rfl<|.g 10 rfl<|.fi rfl rfl
instance fun_plain_bb43_i:PC (fun_plain_bb43) Tryz.prog 147 [(.fn 153 [] [])] (fun r=>(.fn 229 [] [(.iptr [(.fn 153 [] [])])])):=pc func147 (by kernel_rfl) rfl fun E=>by
 unfold fun_plain_bb43
 refine .g 2 rfl<|.st rfl (bxi rfl) rfl<|.g 10 rfl<|.fi rfl rfl
instance fun_plain_ed83_i:PC (fun_plain_ed83) Tryz.prog 147 [(.fn 154 [] [])] (fun r=>(.fn 229 [] [(.iptr [(.fn 154 [] [])])])):=pc func147 (by kernel_rfl) rfl fun E=>by
 unfold fun_plain_ed83
 refine .g 2 rfl<|.st rfl (bxi rfl) rfl<|.g 10 rfl<|.fi rfl rfl
instance fun_all_i:PC (fun_all) Tryz.prog 64 [] (fun r=>(.sl [[(.bool false),(.int .i64 11),(.int .i64 0),(.int .i64 0),(.bool false),(.str (⟨#[101,120,112]⟩:ByteArray)),(.fn 229 [] [(.iptr [(.fn 85 [] [])])])],[(.bool true),(.int .i64 0),(.int .i64 0),(.int .i64 0),(.bool false),(.str (⟨#[108,110]⟩:ByteArray)),(.fn 229 [] [(.iptr [(.fn 148 [] [])])])],[(.bool false),(.int .i64 11),(.int .i64 0),(.int .i64 0),(.bool false),(.str (⟨#[115,105,110]⟩:ByteArray)),(.fn 229 [] [(.iptr [(.fn 149 [] [])])])],[(.bool false),(.int .i64 11),(.int .i64 0),(.int .i64 0),(.bool false),(.str (⟨#[99,111,115]⟩:ByteArray)),(.fn 229 [] [(.iptr [(.fn 101 [] [])])])],[(.bool false),(.int .i64 0),(.int .i64 0),(.int .i64 0),(.bool false),(.str (⟨#[97,116,97,110]⟩:ByteArray)),(.fn 229 [] [(.iptr [(.fn 150 [] [])])])],[(.bool false),(.int .i64 0),(.int .i64 6),(.int .i64 0),(.bool false),(.str (⟨#[101,114,102]⟩:ByteArray)),(.fn 229 [] [(.iptr [(.fn 151 [] [])])])],[(.bool false),(.int .i64 0),(.int .i64 6),(.int .i64 0),(.bool false),(.str (⟨#[101,114,102,99]⟩:ByteArray)),(.fn 229 [] [(.iptr [(.fn 152 [] [])])])],[(.bool true),(.int .i64 0),(.int .i64 64),(.int .i64 64),(.bool false),(.str (⟨#[103,97,109,109,97]⟩:ByteArray)),(.fn 229 [] [(.iptr [(.fn 153 [] [])])])],[(.bool true),(.int .i64 0),(.int .i64 64),(.int .i64 64),(.bool false),(.str (⟨#[108,103,97,109,109,97]⟩:ByteArray)),(.fn 229 [] [(.iptr [(.fn 154 [] [])])])],[(.bool false),(.int .i64 0),(.int .i64 32),(.int .i64 0),(.bool true),(.str (⟨#[98,101,115,115,101,108]⟩:ByteArray)),(.fn 155 [] [])]])):=pc func64 (by kernel_rfl) rfl fun E=>by
 unfold fun_all
 refine .g 15 rfl<|.p0 rfl rfl fun x10 _=>.g 2 rfl<|.p0 rfl rfl fun x11 _=>.g 2 rfl<|.p0 rfl rfl fun x12 _=>.g 2 rfl<|.p0 rfl rfl fun x13 _=>.g 2 rfl<|.p0 rfl rfl fun x14 _=>.g 2 rfl<|.p0 rfl rfl fun x15 _=>.g 2 rfl<|.p0 rfl rfl fun x16 _=>?_
 refine .g 2 rfl<|.p0 rfl rfl fun x17 _=>.g 2 rfl<|.p0 rfl rfl fun x18 _=>.g 3 rfl<|.sv (.sl [[(.bool false),(.int .i64 11),(.int .i64 0),(.int .i64 0),(.bool false),(.str (⟨#[101,120,112]⟩:ByteArray)),(.fn 229 [] [(.iptr [(.fn 85 [] [])])])],[(.bool true),(.int .i64 0),(.int .i64 0),(.int .i64 0),(.bool false),(.str (⟨#[108,110]⟩:ByteArray)),(.fn 229 [] [(.iptr [(.fn 148 [] [])])])],[(.bool false),(.int .i64 11),(.int .i64 0),(.int .i64 0),(.bool false),(.str (⟨#[115,105,110]⟩:ByteArray)),(.fn 229 [] [(.iptr [(.fn 149 [] [])])])],[(.bool false),(.int .i64 11),(.int .i64 0),(.int .i64 0),(.bool false),(.str (⟨#[99,111,115]⟩:ByteArray)),(.fn 229 [] [(.iptr [(.fn 101 [] [])])])],[(.bool false),(.int .i64 0),(.int .i64 0),(.int .i64 0),(.bool false),(.str (⟨#[97,116,97,110]⟩:ByteArray)),(.fn 229 [] [(.iptr [(.fn 150 [] [])])])],[(.bool false),(.int .i64 0),(.int .i64 6),(.int .i64 0),(.bool false),(.str (⟨#[101,114,102]⟩:ByteArray)),(.fn 229 [] [(.iptr [(.fn 151 [] [])])])],[(.bool false),(.int .i64 0),(.int .i64 6),(.int .i64 0),(.bool false),(.str (⟨#[101,114,102,99]⟩:ByteArray)),(.fn 229 [] [(.iptr [(.fn 152 [] [])])])],[(.bool true),(.int .i64 0),(.int .i64 64),(.int .i64 64),(.bool false),(.str (⟨#[103,97,109,109,97]⟩:ByteArray)),(.fn 229 [] [(.iptr [(.fn 153 [] [])])])],[(.bool true),(.int .i64 0),(.int .i64 64),(.int .i64 64),(.bool false),(.str (⟨#[108,103,97,109,109,97]⟩:ByteArray)),(.fn 229 [] [(.iptr [(.fn 154 [] [])])])],[(.bool false),(.int .i64 0),(.int .i64 32),(.int .i64 0),(.bool true),(.str (⟨#[98,101,115,115,101,108]⟩:ByteArray)),(.fn 155 [] [])]]) [] rfl (snd_buildSlice _ _ _ 7 _ _ [(0,(.agg [(.bool false),(.int .i64 11),(.int .i64 0),(.int .i64 0),(.bool false),(.str (⟨#[101,120,112]⟩:ByteArray)),(.fn 229 [] [(.iptr [(.fn 85 [] [])])])])),(1,(.agg [(.bool true),(.int .i64 0),(.int .i64 0),(.int .i64 0),(.bool false),(.str (⟨#[108,110]⟩:ByteArray)),(.fn 229 [] [(.iptr [(.fn 148 [] [])])])])),(2,(.agg [(.bool false),(.int .i64 11),(.int .i64 0),(.int .i64 0),(.bool false),(.str (⟨#[115,105,110]⟩:ByteArray)),(.fn 229 [] [(.iptr [(.fn 149 [] [])])])])),(3,(.agg [(.bool false),(.int .i64 11),(.int .i64 0),(.int .i64 0),(.bool false),(.str (⟨#[99,111,115]⟩:ByteArray)),(.fn 229 [] [(.iptr [(.fn 101 [] [])])])])),(4,(.agg [(.bool false),(.int .i64 0),(.int .i64 0),(.int .i64 0),(.bool false),(.str (⟨#[97,116,97,110]⟩:ByteArray)),(.fn 229 [] [(.iptr [(.fn 150 [] [])])])])),(5,(.agg [(.bool false),(.int .i64 0),(.int .i64 6),(.int .i64 0),(.bool false),(.str (⟨#[101,114,102]⟩:ByteArray)),(.fn 229 [] [(.iptr [(.fn 151 [] [])])])])),(6,(.agg [(.bool false),(.int .i64 0),(.int .i64 6),(.int .i64 0),(.bool false),(.str (⟨#[101,114,102,99]⟩:ByteArray)),(.fn 229 [] [(.iptr [(.fn 152 [] [])])])])),(7,(.agg [(.bool true),(.int .i64 0),(.int .i64 64),(.int .i64 64),(.bool false),(.str (⟨#[103,97,109,109,97]⟩:ByteArray)),(.fn 229 [] [(.iptr [(.fn 153 [] [])])])])),(8,(.agg [(.bool true),(.int .i64 0),(.int .i64 64),(.int .i64 64),(.bool false),(.str (⟨#[108,103,97,109,109,97]⟩:ByteArray)),(.fn 229 [] [(.iptr [(.fn 154 [] [])])])])),(9,(.agg [(.bool false),(.int .i64 0),(.int .i64 32),(.int .i64 0),(.bool true),(.str (⟨#[98,101,115,115,101,108]⟩:ByteArray)),(.fn 155 [] [])]))] [[(.bool false),(.int .i64 11),(.int .i64 0),(.int .i64 0),(.bool false),(.str (⟨#[101,120,112]⟩:ByteArray)),(.fn 229 [] [(.iptr [(.fn 85 [] [])])])],[(.bool true),(.int .i64 0),(.int .i64 0),(.int .i64 0),(.bool false),(.str (⟨#[108,110]⟩:ByteArray)),(.fn 229 [] [(.iptr [(.fn 148 [] [])])])],[(.bool false),(.int .i64 11),(.int .i64 0),(.int .i64 0),(.bool false),(.str (⟨#[115,105,110]⟩:ByteArray)),(.fn 229 [] [(.iptr [(.fn 149 [] [])])])],[(.bool false),(.int .i64 11),(.int .i64 0),(.int .i64 0),(.bool false),(.str (⟨#[99,111,115]⟩:ByteArray)),(.fn 229 [] [(.iptr [(.fn 101 [] [])])])],[(.bool false),(.int .i64 0),(.int .i64 0),(.int .i64 0),(.bool false),(.str (⟨#[97,116,97,110]⟩:ByteArray)),(.fn 229 [] [(.iptr [(.fn 150 [] [])])])],[(.bool false),(.int .i64 0),(.int .i64 6),(.int .i64 0),(.bool false),(.str (⟨#[101,114,102]⟩:ByteArray)),(.fn 229 [] [(.iptr [(.fn 151 [] [])])])],[(.bool false),(.int .i64 0),(.int .i64 6),(.int .i64 0),(.bool false),(.str (⟨#[101,114,102,99]⟩:ByteArray)),(.fn 229 [] [(.iptr [(.fn 152 [] [])])])],[(.bool true),(.int .i64 0),(.int .i64 64),(.int .i64 64),(.bool false),(.str (⟨#[103,97,109,109,97]⟩:ByteArray)),(.fn 229 [] [(.iptr [(.fn 153 [] [])])])],[(.bool true),(.int .i64 0),(.int .i64 64),(.int .i64 64),(.bool false),(.str (⟨#[108,103,97,109,109,97]⟩:ByteArray)),(.fn 229 [] [(.iptr [(.fn 154 [] [])])])],[(.bool false),(.int .i64 0),(.int .i64 32),(.int .i64 0),(.bool true),(.str (⟨#[98,101,115,115,101,108]⟩:ByteArray)),(.fn 155 [] [])]] rfl underlying108 ze107 si107 rfl rfl rfl (by decide) (by decide) (by decide) rfl rfl (by intro e he; simp at he; rcases he with rfl | rfl | rfl | rfl | rfl | rfl | rfl | rfl | rfl | rfl<;>rfl) rfl) rfl<|.g 1 rfl<|.dn (by kernel_rfl)<|.g 2 rfl<|.fi rfl rfl
instance fun_find_i (a0:Int):PC (fun_find a0) Tryz.prog 67 [(.int .i64 a0)] (fun r=>(.tup [(.agg [(.bool r.1),(.int .i64 r.2.1),(.int .i64 r.2.2.1),(.int .i64 r.2.2.2.1),(.bool r.2.2.2.2.1),(.str r.2.2.2.2.2.1),.anyf]),(.bool r.2.2.2.2.2.2)])):=pc func67 (by kernel_rfl) rfl fun E=>by
 unfold fun_find
 refine .g 8 rfl<|?_
 refine .cut (fun x:Bool=>(fun_find_j1 a0 x,[eI 0 a0,eP 2 0,eB 9 x],[(0,(.live 107 [(.bool false),(.int .i64 0),(.int .i64 0),(.int .i64 0),(.bool false),(.str (⟨#[]⟩:ByteArray)),.nilfn]))])) ?_ ?_
 ·rintro y3
  dsimp only [fun_find_j1]
  refine .g 1 rfl<|?_
  refine .cd rfl (fun _ _=>?_) fun _ _=>?_
  ·refine .g 9 rfl<|.fj rfl rfl (by exact .tup (.cons (.agg (.cons (AVle.refl _) (.cons (AVle.refl _) (.cons (AVle.refl _) (.cons (AVle.refl _) (.cons (AVle.refl _) (.cons (AVle.refl _) (.cons AVle.nilAny .nil)))))))) (.cons (AVle.refl _) .nil)))
  ·refine .g 4 rfl<|.p0 rfl rfl fun x4 _=>.g 2 rfl<|?_
   refine .ite (fun h5=>?_) (fun h5=>?_)
   ·refine .sv (.iptr [(.bool false),(.int .i64 11),(.int .i64 0),(.int .i64 0),(.bool false),(.str (⟨#[101,120,112]⟩:ByteArray)),(.fn 229 [] [(.iptr [(.fn 85 [] [])])])]) [] rfl (snd_index_at 0 _ _ _ _ _ _ _ _ rfl underlying108 si107 rfl rfl rfl rfl (by intro e he; simp at he; rcases he with rfl | rfl | rfl | rfl | rfl | rfl | rfl | rfl | rfl | rfl<;>rfl) rfl h5 rfl) rfl<|.g 6 rfl<|.fj rfl rfl (by exact .tup (.cons (.agg (.cons (AVle.refl _) (.cons (AVle.refl _) (.cons (AVle.refl _) (.cons (AVle.refl _) (.cons (AVle.refl _) (.cons (AVle.refl _) (.cons (AVle.fnAny _ _ _) .nil)))))))) (.cons (AVle.refl _) .nil)))
   ·refine .ite (fun h6=>?_) (fun h6=>?_)
    ·refine .sv (.iptr [(.bool true),(.int .i64 0),(.int .i64 0),(.int .i64 0),(.bool false),(.str (⟨#[108,110]⟩:ByteArray)),(.fn 229 [] [(.iptr [(.fn 148 [] [])])])]) [] rfl (snd_index_at 1 _ _ _ _ _ _ _ _ rfl underlying108 si107 rfl rfl rfl rfl (by intro e he; simp at he; rcases he with rfl | rfl | rfl | rfl | rfl | rfl | rfl | rfl | rfl | rfl<;>rfl) rfl h6 rfl) rfl<|.g 6 rfl<|.fj rfl rfl (by exact .tup (.cons (.agg (.cons (AVle.refl _) (.cons (AVle.refl _) (.cons (AVle.refl _) (.cons (AVle.refl _) (.cons (AVle.refl _) (.cons (AVle.refl _) (.cons (AVle.fnAny _ _ _) .nil)))))))) (.cons (AVle.refl _) .nil)))
    ·refine .ite (fun h7=>?_) (fun h7=>?_)
     ·refine .sv (.iptr [(.bool false),(.int .i64 11),(.int .i64 0),(.int .i64 0),(.bool false),(.str (⟨#[115,105,110]⟩:ByteArray)),(.fn 229 [] [(.iptr [(.fn 149 [] [])])])]) [] rfl (snd_index_at 2 _ _ _ _ _ _ _ _ rfl underlying108 si107 rfl rfl rfl rfl (by intro e he; simp at he; rcases he with rfl | rfl | rfl | rfl | rfl | rfl | rfl | rfl | rfl | rfl<;>rfl) rfl h7 rfl) rfl<|.g 6 rfl<|.fj rfl rfl (by exact .tup (.cons (.agg (.cons (AVle.refl _) (.cons (AVle.refl _) (.cons (AVle.refl _) (.cons (AVle.refl _) (.cons (AVle.refl _) (.cons (AVle.refl _) (.cons (AVle.fnAny _ _ _) .nil)))))))) (.cons (AVle.refl _) .nil)))
     ·refine .ite (fun h8=>?_) (fun h8=>?_)
      ·refine .sv (.iptr [(.bool false),(.int .i64 11),(.int .i64 0),(.int .i64 0),(.bool false),(.str (⟨#[99,111,115]⟩:ByteArray)),(.fn 229 [] [(.iptr [(.fn 101 [] [])])])]) [] rfl (snd_index_at 3 _ _ _ _ _ _ _ _ rfl underlying108 si107 rfl rfl rfl rfl (by intro e he; simp at he; rcases he with rfl | rfl | rfl | rfl | rfl | rfl | rfl | rfl | rfl | rfl<;>rfl) rfl h8 rfl) rfl<|.g 6 rfl<|.fj rfl rfl (by exact .tup (.cons (.agg (.cons (AVle.refl _) (.cons (AVle.refl _) (.cons (AVle.refl _) (.cons (AVle.refl _) (.cons (AVle.refl _) (.cons (AVle.refl _) (.cons (AVle.fnAny _ _ _) .nil)))))))) (.cons (AVle.refl _) .nil)))
      ·refine .ite (fun h9=>?_) (fun h9=>?_)
       ·refine .sv (.iptr [(.bool false),(.int .i64 0),(.int .i64 0),(.int .i64 0),(.bool false),(.str (⟨#[97,116,97,110]⟩:ByteArray)),(.fn 229 [] [(.iptr [(.fn 150 [] [])])])]) [] rfl (snd_index_at 4 _ _ _ _ _ _ _ _ rfl underlying108 si107 rfl rfl rfl rfl (by intro e he; simp at he; rcases he with rfl | rfl | rfl | rfl | rfl | rfl | rfl | rfl | rfl | rfl<;>rfl) rfl h9 rfl) rfl<|.g 6 rfl<|.fj rfl rfl (by exact .tup (.cons (.agg (.cons (AVle.refl _) (.cons (AVle.refl _) (.cons (AVle.refl _) (.cons (AVle.refl _) (.cons (AVle.refl _) (.cons (AVle.refl _) (.cons (AVle.fnAny _ _ _) .nil)))))))) (.cons (AVle.refl _) .nil)))
       ·refine .ite (fun h10=>?_) (fun h10=>?_)
        ·refine .sv (.iptr [(.bool false),(.int .i64 0),(.int .i64 6),(.int .i64 0),(.bool false),(.str (⟨#[101,114,102]⟩:ByteArray)),(.fn 229 [] [(.iptr [(.fn 151 [] [])])])]) [] rfl (snd_index_at 5 _ _ _ _ _ _ _ _ rfl underlying108 si107 rfl rfl rfl rfl (by intro e he; simp at he; rcases he with rfl | rfl | rfl | rfl | rfl | rfl | rfl | rfl | rfl | rfl<;>rfl) rfl h10 rfl) rfl<|.g 6 rfl<|.fj rfl rfl (by exact .tup (.cons (.agg (.cons (AVle.refl _) (.cons (AVle.refl _) (.cons (AVle.refl _) (.cons (AVle.refl _) (.cons (AVle.refl _) (.cons (AVle.refl _) (.cons (AVle.fnAny _ _ _) .nil)))))))) (.cons (AVle.refl _) .nil)))
        ·refine .ite (fun h11=>?_) (fun h11=>?_)
         ·refine .sv (.iptr [(.bool false),(.int .i64 0),(.int .i64 6),(.int .i64 0),(.bool false),(.str (⟨#[101,114,102,99]⟩:ByteArray)),(.fn 229 [] [(.iptr [(.fn 152 [] [])])])]) [] rfl (snd_index_at 6 _ _ _ _ _ _ _ _ rfl underlying108 si107 rfl rfl rfl rfl (by intro e he; simp at he; rcases he with rfl | rfl | rfl | rfl | rfl | rfl | rfl | rfl | rfl | rfl<;>rfl) rfl h11 rfl) rfl<|.g 6 rfl<|.fj rfl rfl (by exact .tup (.cons (.agg (.cons (AVle.refl _) (.cons (AVle.refl _) (.cons (AVle.refl _) (.cons (AVle.refl _) (.cons (AVle.refl _) (.cons (AVle.refl _) (.cons (AVle.fnAny _ _ _) .nil)))))))) (.cons (AVle.refl _) .nil)))
         ·refine .ite (fun h12=>?_) (fun h12=>?_)
          ·refine .sv (.iptr [(.bool true),(.int .i64 0),(.int .i64 64),(.int .i64 64),(.bool false),(.str (⟨#[103,97,109,109,97]⟩:ByteArray)),(.fn 229 [] [(.iptr [(.fn 153 [] [])])])]) [] rfl (snd_index_at 7 _ _ _ _ _ _ _ _ rfl underlying108 si107 rfl rfl rfl rfl (by intro e he; simp at he; rcases he with rfl | rfl | rfl | rfl | rfl | rfl | rfl | rfl | rfl | rfl<;>rfl) rfl h12 rfl) rfl<|.g 6 rfl<|.fj rfl rfl (by exact .tup (.cons (.agg (.cons (AVle.refl _) (.cons (AVle.refl _) (.cons (AVle.refl _) (.cons (AVle.refl _) (.cons (AVle.refl _) (.cons (AVle.refl _) (.cons (AVle.fnAny _ _ _) .nil)))))))) (.cons (AVle.refl _) .nil)))
          ·refine .ite (fun h13=>?_) (fun h13=>?_)
           ·refine .sv (.iptr [(.bool true),(.int .i64 0),(.int .i64 64),(.int .i64 64),(.bool false),(.str (⟨#[108,103,97,109,109,97]⟩:ByteArray)),(.fn 229 [] [(.iptr [(.fn 154 [] [])])])]) [] rfl (snd_index_at 8 _ _ _ _ _ _ _ _ rfl underlying108 si107 rfl rfl rfl rfl (by intro e he; simp at he; rcases he with rfl | rfl | rfl | rfl | rfl | rfl | rfl | rfl | rfl | rfl<;>rfl) rfl h13 rfl) rfl<|.g 6 rfl<|.fj rfl rfl (by exact .tup (.cons (.agg (.cons (AVle.refl _) (.cons (AVle.refl _) (.cons (AVle.refl _) (.cons (AVle.refl _) (.cons (AVle.refl _) (.cons (AVle.refl _) (.cons (AVle.fnAny _ _ _) .nil)))))))) (.cons (AVle.refl _) .nil)))
           ·refine .ite (fun h14=>?_) (fun h14=>?_)
            ·refine .sv (.iptr [(.bool false),(.int .i64 0),(.int .i64 32),(.int .i64 0),(.bool true),(.str (⟨#[98,101,115,115,101,108]⟩:ByteArray)),(.fn 155 [] [])]) [] rfl (snd_index_at 9 _ _ _ _ _ _ _ _ rfl underlying108 si107 rfl rfl rfl rfl (by intro e he; simp at he; rcases he with rfl | rfl | rfl | rfl | rfl | rfl | rfl | rfl | rfl | rfl<;>rfl) rfl h14 rfl) rfl<|.g 6 rfl<|.fj rfl rfl (by exact .tup (.cons (.agg (.cons (AVle.refl _) (.cons (AVle.refl _) (.cons (AVle.refl _) (.cons (AVle.refl _) (.cons (AVle.refl _) (.cons (AVle.refl _) (.cons (AVle.fnAny _ _ _) .nil)))))))) (.cons (AVle.refl _) .nil)))
            ·exact .no
 ·intro h15
  refine .g 4 rfl<|?_
  refine .gd 6 rfl (fun _=>?_) fun _=>?_
  ·refine .g 4 rfl<|.jw (h15 true) [(0,0)] rfl
  ·refine .g 4 rfl<|.jw (h15 (decide (a0>10))) [(0,0)] rfl
instance fun_may_i (a0:Int) (a1:Int) (a2:AD):PC (fun_may a0 a1 a2) Tryz.prog 68 [(.int .i64 a0),(.int .i64 a1),(.agg (kD.enc a2))] (fun r=>(.tup [(.agg [(.bool r.1),(.int .i64 r.2.1),(.int .i64 r.2.2.1),(.int .i64 r.2.2.2.1),(.bool r.2.2.2.2.1),(.str r.2.2.2.2.2.1),.anyf]),(.bool r.2.2.2.2.2.2)])):=pc func68 (by kernel_rfl) rfl fun E=>by
 unfold fun_may
 refine .g 10 rfl<|.p0 rfl rfl fun x11 _=>.g 9 rfl<|?_
 refine .cut (fun x:Bool=>(fun_may_j1 x11 x,[eP 6 1,eB 7 x],[(1,(.live 107 [(.bool x11.1),(.int .i64 x11.2.1),(.int .i64 x11.2.2.1),(.int .i64 x11.2.2.2.1),(.bool x11.2.2.2.2.1),(.str x11.2.2.2.2.2.1),.anyf]))])) ?_ ?_
 ·rintro y16
  dsimp only [fun_may_j1]
  refine .g 2 rfl<|.fi rfl rfl
 ·intro h13
  refine .g 4 rfl<|?_
  refine .gd 17 rfl (fun _=>?_) fun _=>?_
  ·refine .g 3 rfl<|?_
   refine .gd 20 rfl (fun _=>?_) fun _=>?_
   ·refine .g 15 rfl<|.p0 rfl rfl fun x17 _=>.g 2 rfl<|?_
    refine .gd 38 rfl (fun _=>?_) fun _=>?_
    ·refine .g 3 rfl<|.p0 rfl rfl fun x18 _=>.g 4 rfl<|.dn (by kernel_rfl)<|.jw (h13 (decide (x18≤200))) [(1,1)] rfl
    ·refine .g 8 rfl<|.dn (by kernel_rfl)<|.jw (h13 false) [(1,1)] rfl
   ·refine .g 4 rfl<|?_
    refine .gd 24 rfl (fun _=>?_) fun _=>?_
    ·refine .g 4 rfl<|?_
     refine .gd 28 rfl (fun _=>?_) fun _=>?_
     ·refine .g 6 rfl<|?_
      refine .gd 34 rfl (fun _=>?_) fun _=>?_
      ·refine .g 1 rfl<|.p0 rfl rfl fun x19 _=>.g 2 rfl<|?_
       refine .gd 38 rfl (fun _=>?_) fun _=>?_
       ·refine .g 3 rfl<|.p0 rfl rfl fun x20 _=>.g 4 rfl<|.dn (by kernel_rfl)<|.jw (h13 (decide (x20≤200))) [(1,1)] rfl
       ·refine .g 8 rfl<|.dn (by kernel_rfl)<|.jw (h13 false) [(1,1)] rfl
      ·refine .g 12 rfl<|.dn (by kernel_rfl)<|.jw (h13 false) [(1,1)] rfl
     ·refine .g 18 rfl<|.dn (by kernel_rfl)<|.jw (h13 false) [(1,1)] rfl
    ·refine .g 22 rfl<|.dn (by kernel_rfl)<|.jw (h13 false) [(1,1)] rfl
  ·refine .g 29 rfl<|.dn (by kernel_rfl)<|.jw (h13 false) [(1,1)] rfl
end Go.Proofs.YtoakhpdeadglpaaGreat.Gen
