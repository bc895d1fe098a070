/- Printed by geng.py: a call does what the plain function says. -/
import Derived.Test.YtjfcghliglfapabGreatGammStepGenP4
set_option linter.unusedVariables false
set_option linter.unusedSimpArgs false
set_option maxRecDepth 4000
namespace Go.Proofs.YtjfcghliglfapabGreat.Gen
open Go Go.Abs Go.Proofs Go.Proofs.Tryz
instance small_series_361b_i (a0:AI) (a1:Int) (a2:Int) (a3:Bool) (a4:List Int) (a5:Int) (a6:Bool) (a7:List Int) (a8:Int):CC (small_series_361b a0 a1 a2 a3 a4 a5 a6 a7 a8) Tryz.prog 238 [(.ptr 0 0),(.agg (kI.enc a0)),(.fn 264 [] [(.ptr 1 0)])] [(.live 47 [(.int .i64 a1),(.int .i64 a2)]),(.live 194 [(.fn 277 [] [(.ptr 2 0),(.ptr 3 0)])]),(.live 29 [(.ptr 0 0)]),(.live 37 [(.bool a3),(slK (kInt .u32) a4),(.int .i64 a5),(.bool a6),(slK (kInt .u32) a7),(.int .i64 a8)])] (fun r=>(.agg (kI.enc (⟨⟨(((r.1).Lo).M),((r.1).Lo).E⟩,⟨(((r.1).Hi).M),((r.1).Hi).E⟩⟩:AI)))) (fun r=>[(.live 47 [(.int .i64 r.2),(.int .i64 a2)]),(.live 194 [(.fn 277 [] [(.ptr 2 0),(.ptr 3 0)])]),(.live 29 [(.ptr 0 0)]),(.live 37 [(.bool a3),(slK (kInt .u32) a4),(.int .i64 a5),(.bool a6),(slK (kInt .u32) a7),(.int .i64 a8)])]):=cc func238 (by kernel_rfl) rfl fun E=>by
 unfold small_series_361b
 refine .g 14 rfl<|.dn (by kernel_rfl)<|.g 5 rfl<|.bind fun x93 h1=>.st rfl (cl (CC.h h1) [0] [] [false] rfl (.p rfl<|.nil) (.p rfl (.i<|.i<|.nil) .nil) fnil (.cons (.v (.i<|.i<|.nil)) .nil) (.int _ _) (.kept rfl .nil) rfl) rfl<|.p0 rfl rfl fun x94 _=>.g 3 rfl<|?_
 refine .cut (fun x:Int × Bool × (List Int) × Int × Bool × (List Int) × Int=>(small_series_361b_j1 a2 x.1 x.2.1 x.2.2.1 x.2.2.2.1 x.2.2.2.2.1 x.2.2.2.2.2.1 x.2.2.2.2.2.2,[eP 0 0,eP 6 5,eP 7 6],[(0,(.live 47 [(.int .i64 x.1),(.int .i64 a2)])),(1,(.live 194 [(.fn 277 [] [(.ptr 2 0),(.ptr 3 0)])])),(2,(.live 29 [(.ptr 0 0)])),(3,(.live 37 [(.bool a3),(slK (kInt .u32) a4),(.int .i64 a5),(.bool a6),(slK (kInt .u32) a7),(.int .i64 a8)])),(5,(.live 37 [(.bool false),(slK (kInt .u32) []),(.int .i64 0),(.bool false),(slK (kInt .u32) []),(.int .i64 0)])),(6,(.live 37 [(.bool x.2.1),(slK (kInt .u32) x.2.2.1),(.int .i64 x.2.2.2.1),(.bool x.2.2.2.2.1),(slK (kInt .u32) x.2.2.2.2.2.1),(.int .i64 x.2.2.2.2.2.2)]))])) ?_ ?_
 ·rintro ⟨y135,y136,y137,y138,y139,y140,y141⟩
  dsimp only [small_series_361b_j1]
  refine .g 6 rfl<|.bind fun x142 h21=>.st rfl (cl (CC.h h21) [0] [] [false] rfl (.p rfl<|.nil) (.p rfl (.i<|.i<|.nil) .nil) fnil (.cons (.v (.i<|.i<|.nil)) .nil) (.int _ _) (.kept rfl .nil) rfl) rfl<|.g 1 rfl<|.p0 rfl rfl fun x143 _=>.bind fun x144 h23=>.st rfl (cl (CC.h h23) [0] [] [true] rfl (.p rfl<|.a kI<|.a kD<|.nil) (.p rfl (.i<|.i<|.nil) .nil) fnil (.cons (.v (.i<|.i<|.nil)) .nil) (ren_agg (K:=kI) _) (.turned .nil) rfl) rfl<|.g 1 rfl<|.dn (by kernel_rfl)<|.g 2 rfl<|.fi rfl rfl
 ·intro h24
  refine .g 1 rfl<|?_
  refine .lp (fun n (x:Int × Int × Bool × (List Int) × Int × Bool × (List Int) × Int × Bool × (List Int) × Int × Bool × (List Int) × Int)=>small_series_361b_l2 x94 a2 a3 a4 a5 a6 a7 a8 n x.1 x.2.1 x.2.2.1 x.2.2.2.1 x.2.2.2.2.1 x.2.2.2.2.2.1 x.2.2.2.2.2.2.1 x.2.2.2.2.2.2.2.1 x.2.2.2.2.2.2.2.2.1 x.2.2.2.2.2.2.2.2.2.1 x.2.2.2.2.2.2.2.2.2.2.1 x.2.2.2.2.2.2.2.2.2.2.2.1 x.2.2.2.2.2.2.2.2.2.2.2.2.1 x.2.2.2.2.2.2.2.2.2.2.2.2.2) (fun x=>([eP 0 0,(2,some (.fn 264 [] [(.ptr 1 0)])),eP 6 5,eP 7 6,eP 8 7,eI 15 x94,eI 16 x.1],[(0,(.live 47 [(.int .i64 x.2.1),(.int .i64 a2)])),(1,(.live 194 [(.fn 277 [] [(.ptr 2 0),(.ptr 3 0)])])),(2,(.live 29 [(.ptr 0 0)])),(3,(.live 37 [(.bool a3),(slK (kInt .u32) a4),(.int .i64 a5),(.bool a6),(slK (kInt .u32) a7),(.int .i64 a8)])),(5,(.live 37 [(.bool false),(slK (kInt .u32) []),(.int .i64 0),(.bool false),(slK (kInt .u32) []),(.int .i64 0)])),(6,(.live 37 [(.bool x.2.2.1),(slK (kInt .u32) x.2.2.2.1),(.int .i64 x.2.2.2.2.1),(.bool x.2.2.2.2.2.1),(slK (kInt .u32) x.2.2.2.2.2.2.1),(.int .i64 x.2.2.2.2.2.2.2.1)])),(7,(.live 37 [(.bool x.2.2.2.2.2.2.2.2.1),(slK (kInt .u32) x.2.2.2.2.2.2.2.2.2.1),(.int .i64 x.2.2.2.2.2.2.2.2.2.2.1),(.bool x.2.2.2.2.2.2.2.2.2.2.2.1),(slK (kInt .u32) x.2.2.2.2.2.2.2.2.2.2.2.2.1),(.int .i64 x.2.2.2.2.2.2.2.2.2.2.2.2.2)]))])) (0,a1,a0.Lo.M.Neg,a0.Lo.M.Mag,a0.Lo.E,a0.Hi.M.Neg,a0.Hi.M.Mag,a0.Hi.E,a0.Lo.M.Neg,a0.Lo.M.Mag,a0.Lo.E,a0.Hi.M.Neg,a0.Hi.M.Mag,a0.Hi.E) [(0,0),(1,1),(2,2),(3,3),(5,5),(6,6),(7,7)] rfl ?_
  rintro n2 ⟨y167,y168,y169,y170,y171,y172,y173,y174,y175,y176,y177,y178,y179,y180⟩
  try dsimp only
  rw [small_series_361b_l2]
  refine .g 6 rfl<|?_
  refine .cd rfl (fun _ _=>?_) fun _ _=>?_
  ·refine .g 21 rfl<|.bind fun x183 h41=>.st rfl (cl (CC.h h41) [1,2,0,3] [] [false,false,true,false] rfl (.i<|.a kI<|.p rfl<|.nil) (.p rfl (.cons (ren_fnL _ .nil (.p rfl<|.p rfl<|.nil))<|.nil) (.p rfl (.p rfl<|.nil) (.p rfl (.i<|.i<|.nil) (.p rfl (.b<|.l<|.i<|.b<|.l<|.i<|.nil) .nil)))) fnil (.cons (.v (.cons (ren_fnL _ .nil (.p rfl<|.p rfl<|.nil))<|.nil)) (.cons (.v (.p rfl<|.nil)) (.cons (.v (.i<|.i<|.nil)) (.cons (.v (.b<|.l<|.i<|.b<|.l<|.i<|.nil)) .nil)))) (ren_tupL (.a kI<|.a kI<|.nil)) (.kept rfl (.kept rfl (.turned (.kept rfl .nil)))) rfl) rfl<|.g 11 rfl<|.bind fun x184 h42=>.st rfl (cl (CC.h h42) [0] [] [true] rfl (.p rfl<|.a kI<|.a kI<|.nil) (.p rfl (.i<|.i<|.nil) .nil) fnil (.cons (.v (.i<|.i<|.nil)) .nil) (ren_agg (K:=kI) _) (.turned .nil) rfl) rfl<|.g 8 rfl<|.ag ((IntKind.i64.wrap (y167+1)),x184.2,(((x184.1).Lo).M).Neg,(((x184.1).Lo).M).Mag,((x184.1).Lo).E,(((x184.1).Hi).M).Neg,(((x184.1).Hi).M).Mag,((x184.1).Hi).E,(((x183.1).Lo).M).Neg,(((x183.1).Lo).M).Mag,((x183.1).Lo).E,(((x183.1).Hi).M).Neg,(((x183.1).Hi).M).Mag,((x183.1).Hi).E) [(0,0),(1,1),(2,2),(3,3),(5,5),(6,6),(7,7)] rfl
  ·refine .g 4 rfl<|.jw (h24 (y168,y169,y170,y171,y172,y173,y174)) [(0,0),(1,1),(2,2),(3,3),(5,5),(6,6)] rfl
instance small_plain_1fcd_i (a0:AI) (a1:Int) (a2:Int) (a3:Bool) (a4:List Int) (a5:Int) (a6:Bool) (a7:List Int) (a8:Int):CC (small_plain_1fcd a0 a1 a2 a3 a4 a5 a6 a7 a8) Tryz.prog 227 [(.ptr 0 0),(.agg (kI.enc a0)),(.fn 277 [] [(.ptr 1 0),(.ptr 2 0)])] [(.live 47 [(.int .i64 a1),(.int .i64 a2)]),(.live 29 [(.ptr 0 0)]),(.live 37 [(.bool a3),(slK (kInt .u32) a4),(.int .i64 a5),(.bool a6),(slK (kInt .u32) a7),(.int .i64 a8)])] (fun r=>(.agg (kI.enc (⟨⟨(((r.1).Lo).M),((r.1).Lo).E⟩,⟨(((r.1).Hi).M),((r.1).Hi).E⟩⟩:AI)))) (fun r=>[(.live 47 [(.int .i64 r.2),(.int .i64 a2)]),(.live 29 [(.ptr 0 0)]),(.live 37 [(.bool a3),(slK (kInt .u32) a4),(.int .i64 a5),(.bool a6),(slK (kInt .u32) a7),(.int .i64 a8)])]):=cc func227 (by kernel_rfl) rfl fun E=>by
 unfold small_plain_1fcd
 refine .g 12 rfl<|.bind fun x2 h1=>.st rfl (cl (CC.h h1) [0,4,1,2] [] [true,false,false,false] rfl (.p rfl<|.a kI<|.cons (ren_fnL _ .nil (.p rfl<|.nil))<|.nil) (.p rfl (.i<|.i<|.nil) (.p rfl (.cons (ren_fnL _ .nil (.p rfl<|.p rfl<|.nil))<|.nil) (.p rfl (.p rfl<|.nil) (.p rfl (.b<|.l<|.i<|.b<|.l<|.i<|.nil) .nil)))) fnil (.cons (.v (.i<|.i<|.nil)) (.cons (.v (.cons (ren_fnL _ .nil (.p rfl<|.p rfl<|.nil))<|.nil)) (.cons (.v (.p rfl<|.nil)) (.cons (.v (.b<|.l<|.i<|.b<|.l<|.i<|.nil)) .nil)))) (ren_agg (K:=kI) _) (.turned (.kept rfl (.kept rfl (.kept rfl .nil)))) rfl) rfl<|.g 4 rfl<|.fi rfl rfl
instance small_Exp_i (a0:AI) (a1:Int) (a2:Int):CC (small_Exp a0 a1 a2) Tryz.prog 252 [(.ptr 0 0),(.agg (kI.enc a0))] [(.live 47 [(.int .i64 a1),(.int .i64 a2)])] (fun r=>(.agg (kI.enc (⟨⟨(((r.1).Lo).M),((r.1).Lo).E⟩,⟨(((r.1).Hi).M),((r.1).Hi).E⟩⟩:AI)))) (fun r=>[(.live 47 [(.int .i64 r.2),(.int .i64 a2)])]):=cc func252 (by kernel_rfl) rfl fun E=>by
 unfold small_Exp
 refine .g 12 rfl<|.bind fun x4 h1=>.st rfl (cl (CC.h h1) [0] [] [true] rfl (.p rfl<|.a kI<|.i<|.nil) (.p rfl (.i<|.i<|.nil) .nil) fnil (.cons (.v (.i<|.i<|.nil)) .nil) (.bool _) (.turned .nil) rfl) rfl<|.g 3 rfl<|?_
 refine .cd rfl (fun _ _=>?_) fun _ _=>?_
 ·refine .g 8 rfl<|.fi rfl rfl
 ·refine .g 6 rfl<|.bind fun x5 h4=>.st rfl (cl (CC.h h4) [0] [] [true] rfl (.p rfl<|.i<|.nil) (.p rfl (.i<|.i<|.nil) .nil) fnil (.cons (.v (.i<|.i<|.nil)) .nil) (ren_agg (K:=kI) _) (.turned .nil) rfl) rfl<|.g 1 rfl<|.bind fun x6 h5=>.st rfl (cl (CC.h h5) [0,1,2] [] [true,false,false] rfl (.p rfl<|.a kI<|.cons (ren_fnL _ .nil (.p rfl<|.p rfl<|.nil))<|.nil) (.p rfl (.i<|.i<|.nil) (.p rfl (.p rfl<|.nil) (.p rfl (.b<|.l<|.i<|.b<|.l<|.i<|.nil) .nil))) fnil (.cons (.v (.i<|.i<|.nil)) (.cons (.v (.p rfl<|.nil)) (.cons (.v (.b<|.l<|.i<|.b<|.l<|.i<|.nil)) .nil))) (ren_agg (K:=kI) _) (.turned (.kept rfl (.kept rfl .nil))) rfl) rfl<|.g 1 rfl<|.dn (by kernel_rfl)<|.g 2 rfl<|.fi rfl rfl
instance expo_Exp_i (a0:AD) (a1:Int):PC (expo_Exp a0 a1) Tryz.prog 198 [(.agg (kD.enc a0)),(.int .i64 a1)] (fun r=>(.tup [(.agg (kI.enc (⟨⟨(((r.1).Lo).M),((r.1).Lo).E⟩,⟨(((r.1).Hi).M),((r.1).Hi).E⟩⟩:AI))),(.int .i64 r.2)])):=pc func198 (by kernel_rfl) rfl fun E=>by
 unfold expo_Exp
 refine .g 12 rfl<|.st rfl (bs kD [a0] rfl rfl) rfl<|.p0 rfl rfl fun x63 _=>.g 3 rfl<|?_
 refine .cd rfl (fun _ _=>?_) fun _ _=>?_
 ·refine .g 9 rfl<|.fi rfl rfl
 ·refine .g 5 rfl<|.p0 rfl rfl fun x64 _=>.g 9 rfl<|?_
  refine .cut (fun x:Bool=>(expo_Exp_j1 x64 a1 a0 x,[eI 1 a1,eP 2 0,eP 4 1,eI 6 x64.1,eB 7 x64.2,eB 27 x],[(0,(.live 26 [(.bool a0.M.Neg),(slK (kInt .u32) a0.M.Mag),(.int .i64 a0.E)])),(1,(.live 37 [(.bool false),(slK (kInt .u32) []),(.int .i64 0),(.bool false),(slK (kInt .u32) []),(.int .i64 0)]))])) ?_ ?_
  ·rintro y65
   dsimp only [expo_Exp_j1]
   refine .g 1 rfl<|?_
   refine .cd rfl (fun _ _=>?_) fun _ _=>?_
   ·refine .g 9 rfl<|.fi rfl rfl
   ·refine .g 13 rfl<|?_
    refine .cut (fun x:Int=>(expo_Exp_j2 a1 a0 x,[eI 1 a1,eP 2 0,eP 4 1,eI 8 x],[(0,(.live 26 [(.bool a0.M.Neg),(slK (kInt .u32) a0.M.Mag),(.int .i64 a0.E)])),(1,(.live 37 [(.bool false),(slK (kInt .u32) []),(.int .i64 0),(.bool false),(slK (kInt .u32) []),(.int .i64 0)]))])) ?_ ?_
    ·rintro y66
     dsimp only [expo_Exp_j2]
     refine .g 5 rfl<|.bind fun x67 h10=>?_
     rcases x67 with x68 | x69
     ·dsimp only
      refine .st rfl (cl (iv_New_k_0 h10) [] [2] [true] rfl (.i<|.nil) .nil (fresh_cons rfl fnil) (.cons .dead .nil) (ren_tupL (.cons .nilptr<|.i<|.nil)) (.turned .nil) rfl) rfl<|.g 13 rfl<|.no
     ·dsimp only
      refine .st rfl (cl (iv_New_k_1 h10) [] [2] [true] rfl (.i<|.nil) .nil (fresh_cons rfl fnil) (.cons (.v (.i<|.i<|.nil)) .nil) (ren_tupL (.p rfl<|.i<|.nil)) (.turned .nil) rfl) rfl<|.g 13 rfl<|.bind fun x70 h11=>.st rfl (cl (CC.h h11) [2] [] [true] rfl (.p rfl<|.a kD<|.nil) (.p rfl (.i<|.i<|.nil) .nil) fnil (.cons (.v (.i<|.i<|.nil)) .nil) (ren_agg (K:=kI) _) (.turned .nil) rfl) rfl<|.g 2 rfl<|.bind fun x71 h12=>.st rfl (cl (CC.h h12) [2] [] [true] rfl (.p rfl<|.a kI<|.i<|.nil) (.p rfl (.i<|.i<|.nil) .nil) fnil (.cons (.v (.i<|.i<|.nil)) .nil) (ren_agg (K:=kI) _) (.turned .nil) rfl) rfl<|.bind fun x72 h13=>.st rfl (cl (CC.h h13) [2] [] [true] rfl (.p rfl<|.a kI<|.nil) (.p rfl (.i<|.i<|.nil) .nil) fnil (.cons (.v (.i<|.i<|.nil)) .nil) (ren_agg (K:=kI) _) (.turned .nil) rfl) rfl<|.g 11 rfl<|?_
      refine .cut (fun x:Int × Bool × (List Int) × Int × Bool × (List Int) × Int=>(expo_Exp_j3 a1 x69 x.1 x.2.1 x.2.2.1 x.2.2.2.1 x.2.2.2.2.1 x.2.2.2.2.2.1 x.2.2.2.2.2.2,[eI 1 a1,eP 4 1,eP 9 2,eP 11 3],[(1,(.live 37 [(.bool false),(slK (kInt .u32) []),(.int .i64 0),(.bool false),(slK (kInt .u32) []),(.int .i64 0)])),(2,(.live 47 [(.int .i64 x.1),(.int .i64 x69.2.2)])),(3,(.live 37 [(.bool x.2.1),(slK (kInt .u32) x.2.2.1),(.int .i64 x.2.2.2.1),(.bool x.2.2.2.2.1),(slK (kInt .u32) x.2.2.2.2.2.1),(.int .i64 x.2.2.2.2.2.2)]))])) ?_ ?_
      ·rintro ⟨y95,y96,y97,y98,y99,y100,y101⟩
       dsimp only [expo_Exp_j3]
       refine .g 6 rfl<|.bind fun x102 h26=>.st rfl (cl (CC.h h26) [2] [] [false] rfl (.p rfl<|.a kI<|.i<|.nil) (.p rfl (.i<|.i<|.nil) .nil) fnil (.cons (.v (.i<|.i<|.nil)) .nil) (ren_tupL (.a kI<|.i<|.nil)) (.kept rfl .nil) rfl) rfl<|.g 7 rfl<|.fi rfl rfl
      ·intro h27
       refine .g 1 rfl<|?_
       refine .lp (fun n (x:Int × Int × Bool × (List Int) × Int × Bool × (List Int) × Int)=>expo_Exp_l4 y66 x69 a1 n x.1 x.2.1 x.2.2.1 x.2.2.2.1 x.2.2.2.2.1 x.2.2.2.2.2.1 x.2.2.2.2.2.2.1 x.2.2.2.2.2.2.2) (fun x=>([eI 1 a1,eP 4 1,eP 9 2,eP 11 3,eI 48 y66,eI 49 x.1],[(1,(.live 37 [(.bool false),(slK (kInt .u32) []),(.int .i64 0),(.bool false),(slK (kInt .u32) []),(.int .i64 0)])),(2,(.live 47 [(.int .i64 x.2.1),(.int .i64 x69.2.2)])),(3,(.live 37 [(.bool x.2.2.1),(slK (kInt .u32) x.2.2.2.1),(.int .i64 x.2.2.2.2.1),(.bool x.2.2.2.2.2.1),(slK (kInt .u32) x.2.2.2.2.2.2.1),(.int .i64 x.2.2.2.2.2.2.2)]))])) (0,x72.2,(((x72.1).Lo).M).Neg,(((x72.1).Lo).M).Mag,((x72.1).Lo).E,(((x72.1).Hi).M).Neg,(((x72.1).Hi).M).Mag,((x72.1).Hi).E) [(1,1),(2,2),(3,3)] rfl ?_
       rintro n4 ⟨y115,y116,y117,y118,y119,y120,y121,y122⟩
       try dsimp only
       rw [expo_Exp_l4]
       refine .g 6 rfl<|?_
       refine .cd rfl (fun _ _=>?_) fun _ _=>?_
       ·refine .g 8 rfl<|.bind fun x124 h39=>.st rfl (cl (CC.h h39) [2] [] [true] rfl (.p rfl<|.a kI<|.a kI<|.nil) (.p rfl (.i<|.i<|.nil) .nil) fnil (.cons (.v (.i<|.i<|.nil)) .nil) (ren_agg (K:=kI) _) (.turned .nil) rfl) rfl<|.g 8 rfl<|.ag ((IntKind.i64.wrap (y115+1)),x124.2,(((x124.1).Lo).M).Neg,(((x124.1).Lo).M).Mag,((x124.1).Lo).E,(((x124.1).Hi).M).Neg,(((x124.1).Hi).M).Mag,((x124.1).Hi).E) [(1,1),(2,2),(3,3)] rfl
       ·refine .g 4 rfl<|.jw (h27 (y116,y117,y118,y119,y120,y121,y122)) [(1,1),(2,2),(3,3)] rfl
    ·intro h40
     refine .cd rfl (fun _ _=>?_) fun _ _=>?_
     ·refine .g 6 rfl<|.jw (h40 (mx 0 (IntKind.i64.wrap (x64.1+3)))) [(0,0),(1,1)] rfl
     ·refine .g 1 rfl<|.jw (h40 0) [(0,0),(1,1)] rfl
  ·intro h43
   refine .g 3 rfl<|?_
   refine .gd 24 rfl (fun _=>?_) fun _=>?_
   ·refine .g 4 rfl<|.jw (h43 (decide (x64.1>11))) [(0,0),(1,1)] rfl
   ·refine .g 4 rfl<|.jw (h43 false) [(0,0),(1,1)] rfl
instance expo_both_8db6_i (a0:AI) (a1:Int):PC (expo_both_8db6 a0 a1) Tryz.prog 146 [(.agg (kI.enc a0)),(.int .i64 a1),(.fn 198 [] [])] (fun r=>(.tup [(.agg (kI.enc (⟨⟨(((r.1).Lo).M),((r.1).Lo).E⟩,⟨(((r.1).Hi).M),((r.1).Hi).E⟩⟩:AI))),(.int .i64 r.2)])):=pc func146 (by kernel_rfl) rfl fun E=>by
 unfold expo_both_8db6
 refine .g 9 rfl<|?_
 refine .cut (fun x:Bool=>(expo_both_8db6_j1 a0 a1 x,[eI 1 a1,(2,some (.fn 198 [] [])),eP 3 0,eP 6 1,eB 23 x],[(0,(.live 37 [(.bool a0.Lo.M.Neg),(slK (kInt .u32) a0.Lo.M.Mag),(.int .i64 a0.Lo.E),(.bool a0.Hi.M.Neg),(slK (kInt .u32) a0.Hi.M.Mag),(.int .i64 a0.Hi.E)])),(1,(.live 37 [(.bool false),(slK (kInt .u32) []),(.int .i64 0),(.bool false),(slK (kInt .u32) []),(.int .i64 0)]))])) ?_ ?_
 ·rintro y10
  dsimp only [expo_both_8db6_j1]
  refine .g 1 rfl<|?_
  refine .cd rfl (fun _ _=>?_) fun _ _=>?_
  ·refine .g 9 rfl<|.fi rfl rfl
  ·refine .g 8 rfl<|.p0 rfl rfl fun x11 _=>.g 15 rfl<|?_
   refine .cd rfl (fun _ _=>?_) fun _ _=>?_
   ·refine .g 10 rfl<|.fi rfl rfl
   ·refine .g 8 rfl<|.p0 rfl rfl fun x12 _=>.g 15 rfl<|?_
    refine .cd rfl (fun _ _=>?_) fun _ _=>?_
    ·refine .g 10 rfl<|.fi rfl rfl
    ·refine .g 14 rfl<|.fi rfl rfl
 ·intro h12
  refine .g 2 rfl<|.p0 rfl rfl fun x13 _=>.g 2 rfl<|?_
  refine .gd 14 rfl (fun _=>?_) fun _=>?_
  ·refine .g 10 rfl<|.jw (h12 true) [(0,0),(1,1)] rfl
  ·refine .g 5 rfl<|.st rfl (bs kD [a0.Lo,a0.Hi] rfl rfl) rfl<|.p0 rfl rfl fun x14 _=>.g 3 rfl<|.jw (h12 (!x14)) [(0,0),(1,1)] rfl
instance expo_ExpOf_i (a0:AI) (a1:Int):PC (expo_ExpOf a0 a1) Tryz.prog 143 [(.agg (kI.enc a0)),(.int .i64 a1)] (fun r=>(.tup [(.agg (kI.enc (⟨⟨(((r.1).Lo).M),((r.1).Lo).E⟩,⟨(((r.1).Hi).M),((r.1).Hi).E⟩⟩:AI))),(.int .i64 r.2)])):=pc func143 (by kernel_rfl) rfl fun E=>by
 unfold expo_ExpOf
 refine .g 11 rfl<|.p0 rfl rfl fun x2 _=>.g 7 rfl<|.fi rfl rfl
instance gamm_Gamma_i (a0:AD) (a1:Int):PC (gamm_Gamma a0 a1) Tryz.prog 67 [(.agg (kD.enc a0)),(.int .i64 a1)] (fun r=>(.tup [(.agg (kI.enc (⟨⟨(((r.1).Lo).M),((r.1).Lo).E⟩,⟨(((r.1).Hi).M),((r.1).Hi).E⟩⟩:AI))),(.int .i64 r.2)])):=pc func67 (by kernel_rfl) rfl fun E=>by
 unfold gamm_Gamma
 refine .g 12 rfl<|.p0 rfl rfl fun x9 _=>.g 9 rfl<|?_
 refine .cd rfl (fun _ _=>?_) fun _ _=>?_
 ·refine .g 10 rfl<|.fi rfl rfl
 ·refine .g 7 rfl<|.bind fun x10 h4=>?_
  rcases x10 with x11 | x12
  ·dsimp only
   refine .st rfl (cl (gamm_begin_k_0 h4) [] [2,3] [true,true] rfl (.i<|.nil) .nil (fresh_cons rfl (fresh_cons rfl fnil)) (.cons .dead (.cons (.v (.cons .nilptr<|.i<|.nil)) .nil)) (.ptr _ _ _ rfl) (.turned (.turned .nil)) rfl) rfl<|.g 8 rfl<|.no
  ·dsimp only
   refine .st rfl (cl (gamm_begin_k_1 h4) [] [2,3] [true,true] rfl (.i<|.nil) .nil (fresh_cons rfl (fresh_cons rfl fnil)) (.cons (.v (.i<|.i<|.nil)) (.cons (.v (.p rfl<|.i<|.nil)) .nil)) (.ptr _ _ _ rfl) (.turned (.turned .nil)) rfl) rfl<|.g 8 rfl<|.bind fun x13 h5=>.st rfl (cl (CC.h h5) [3,2] [] [false,true] rfl (.p rfl<|.a kD<|.nil) (.p rfl (.p rfl<|.i<|.nil) (.p rfl (.i<|.i<|.nil) .nil)) fnil (.cons (.v (.p rfl<|.i<|.nil)) (.cons (.v (.i<|.i<|.nil)) .nil)) (ren_agg (K:=kI) _) (.kept rfl (.turned .nil)) rfl) rfl<|.g 2 rfl<|.bind fun x14 h6=>.st rfl (cl (CC.h h6) [3,2] [] [false,false] rfl (.p rfl<|.a kI<|.i<|.nil) (.p rfl (.p rfl<|.i<|.nil) (.p rfl (.i<|.i<|.nil) .nil)) fnil (.cons (.v (.p rfl<|.i<|.nil)) (.cons (.v (.i<|.i<|.nil)) .nil)) (ren_tupL (.a kI<|.i<|.nil)) (.kept rfl (.kept rfl .nil)) rfl) rfl<|.g 15 rfl<|?_
   refine .cd rfl (fun _ _=>?_) fun _ _=>?_
   ·refine .g 10 rfl<|.fi rfl rfl
   ·refine .g 7 rfl<|.p0 rfl rfl fun x15 _=>.g 15 rfl<|?_
    refine .cd rfl (fun _ _=>?_) fun _ _=>?_
    ·refine .g 10 rfl<|.fi rfl rfl
    ·refine .g 7 rfl<|.bind fun x16 h12=>.st rfl (cl (CC.h h12) [3,2] [] [false,false] rfl (.p rfl<|.a kI<|.i<|.nil) (.p rfl (.p rfl<|.i<|.nil) (.p rfl (.i<|.i<|.nil) .nil)) fnil (.cons (.v (.p rfl<|.i<|.nil)) (.cons (.v (.i<|.i<|.nil)) .nil)) (ren_tupL (.a kI<|.i<|.nil)) (.kept rfl (.kept rfl .nil)) rfl) rfl<|.g 7 rfl<|.fi rfl rfl
instance r04_Right_i (a0:ApiInt):PC (r04_Right a0) Tryz.prog 225 [(.agg (kN.enc a0))] (fun r=>(.bool r)):=pc func225 (by kernel_rfl) rfl fun E=>by
 unfold r04_Right
 refine .g 10 rfl<|.ln rfl rfl<|.g 4 rfl<|?_
 refine .cut (fun x:Bool=>(r04_Right_j1 x,[eB 2 x],[])) ?_ ?_
 ·rintro y2
  dsimp only [r04_Right_j1]
  refine .g 2 rfl<|.fi rfl rfl
 ·intro h7
  refine .g 4 rfl<|?_
  refine .gd 9 rfl (fun _=>?_) fun _=>?_
  ·refine .g 5 rfl<|?_
   refine .gd 14 rfl (fun _=>?_) fun _=>?_
   ·refine .g 14 rfl<|.jw (h7 true) [] rfl
   ·refine .g 3 rfl<|?_
    refine .gd 17 rfl (fun _=>?_) fun _=>?_
    ·refine .g 4 rfl<|.ix rfl rfl<|.g 6 rfl<|.jw (h7 ((a0.Mag.getD ((IntKind.i64.wrap ((a0.Mag.length:Int)-1)).toNat) (kInt .u32).z) != 0)) [] rfl
    ·refine .g 11 rfl<|.jw (h7 false) [] rfl
  ·refine .g 8 rfl<|?_
   refine .gd 17 rfl (fun _=>?_) fun _=>?_
   ·refine .g 4 rfl<|.ix rfl rfl<|.g 6 rfl<|.jw (h7 ((a0.Mag.getD ((IntKind.i64.wrap ((a0.Mag.length:Int)-1)).toNat) (kInt .u32).z) != 0)) [] rfl
   ·refine .g 11 rfl<|.jw (h7 false) [] rfl
instance r05_Right_i (a0:AD):PC (r05_Right a0) Tryz.prog 151 [(.agg (kD.enc a0))] (fun r=>(.bool r)):=pc func151 (by kernel_rfl) rfl fun E=>by
 unfold r05_Right
 refine .g 10 rfl<|.p0 rfl rfl fun x3 _=>.g 10 rfl<|?_
 refine .cd rfl (fun _ _=>?_) fun _ _=>?_
 ·refine .g 7 rfl<|.fi rfl rfl
 ·refine .g 8 rfl<|.ln rfl rfl<|.g 3 rfl<|?_
  refine .cd rfl (fun _ _=>?_) fun _ _=>?_
  ·refine .g 10 rfl<|.fi rfl rfl
  ·refine .g 3 rfl<|?_
   refine .cut (fun x:Bool=>(r05_Right_j1 x,[eB 2 x],[])) ?_ ?_
   ·rintro y4
    dsimp only [r05_Right_j1]
    refine .g 2 rfl<|.fi rfl rfl
   ·intro h9
    refine .g 4 rfl<|.ix rfl rfl<|.g 4 rfl<|?_
    refine .gd 24 rfl (fun _=>?_) fun _=>?_
    ·refine .g 5 rfl<|?_
     refine .gd 29 rfl (fun _=>?_) fun _=>?_
     ·refine .g 6 rfl<|.jw (h9 (decide (a0.E≤131072))) [] rfl
     ·refine .g 6 rfl<|.jw (h9 false) [] rfl
    ·refine .g 11 rfl<|.jw (h9 false) [] rfl
instance r01_Cmp_i (a0:List Int) (a1:List Int):PC (r01_Cmp a0 a1) Tryz.prog 240 [(slK (kInt .u32) a0),(slK (kInt .u32) a1)] (fun r=>(.int .i64 r)):=pc func240 (by kernel_rfl) rfl fun E=>by
 unfold r01_Cmp
 refine .g 9 rfl<|.ln rfl rfl<|.g 1 rfl<|.ln rfl rfl<|.g 5 rfl<|?_
 refine .cut (fun x:Unit=>(r01_Cmp_j1,[],[])) ?_ ?_
 ·rintro _
  dsimp only [r01_Cmp_j1]
  refine .g 7 rfl<|.fi rfl rfl
 ·intro h55
  refine .g 1 rfl<|?_
  refine .lp (fun n (x:Int)=>r01_Cmp_l2 a0 a1 n x) (fun x=>([eL 0 a0,eL 1 a1,eI 5 x],[])) (IntKind.i64.wrap ((mx (a0.length:Int) (a1.length:Int))-1)) [] rfl ?_
  rintro n2 y96
  try dsimp only
  rw [r01_Cmp_l2]
  refine .g 7 rfl<|?_
  refine .cd rfl (fun _ _=>?_) fun _ _=>?_
  ·refine .g 9 rfl<|.p0 rfl rfl fun x101 _=>.g 2 rfl<|.p0 rfl rfl fun x102 _=>.g 3 rfl<|?_
   refine .cd rfl (fun _ _=>?_) fun _ _=>?_
   ·refine .g 12 rfl<|.fi rfl rfl
   ·refine .g 6 rfl<|.p0 rfl rfl fun x103 _=>.g 2 rfl<|.p0 rfl rfl fun x104 _=>.g 3 rfl<|?_
    refine .cd rfl (fun _ _=>?_) fun _ _=>?_
    ·refine .g 11 rfl<|.fi rfl rfl
    ·refine .g 8 rfl<|.ag (IntKind.i64.wrap (y96-1)) [] rfl
  ·refine .g 4 rfl<|.jw (h55 ()) [] rfl
instance r04_Cmp_i (a0:ApiInt) (a1:ApiInt):PC (r04_Cmp a0 a1) Tryz.prog 178 [(.agg (kN.enc a0)),(.agg (kN.enc a1))] (fun r=>(.int .i64 r)):=pc func178 (by kernel_rfl) rfl fun E=>by
 unfold r04_Cmp
 refine .g 13 rfl<|.p0 rfl rfl fun x10 _=>.g 10 rfl<|.p0 rfl rfl fun x11 _=>.g 7 rfl<|?_
 refine .cut (fun x:Bool=>(r04_Cmp_j1 x10 x11 x,[eP 5 2,eP 6 3,eB 17 x],[(2,(.live 24 [(.bool ((x10).Neg)),(slK (kInt .u32) ((x10).Mag))])),(3,(.live 24 [(.bool ((x11).Neg)),(slK (kInt .u32) ((x11).Mag))]))])) ?_ ?_
 ·rintro y15
  dsimp only [r04_Cmp_j1]
  refine .g 1 rfl<|?_
  refine .cd rfl (fun _ _=>?_) fun _ _=>?_
  ·refine .g 8 rfl<|.fi rfl rfl
  ·refine .g 1 rfl<|?_
   refine .cut (fun x:Bool=>(r04_Cmp_j2 x10 x11 x,[eP 5 2,eP 6 3,eB 25 x],[(2,(.live 24 [(.bool ((x10).Neg)),(slK (kInt .u32) ((x10).Mag))])),(3,(.live 24 [(.bool ((x11).Neg)),(slK (kInt .u32) ((x11).Mag))]))])) ?_ ?_
   ·rintro y16
    dsimp only [r04_Cmp_j2]
    refine .g 1 rfl<|?_
    refine .cd rfl (fun _ _=>?_) fun _ _=>?_
    ·refine .g 8 rfl<|.fi rfl rfl
    ·refine .g 7 rfl<|?_
     refine .cd rfl (fun _ _=>?_) fun _ _=>?_
     ·refine .g 6 rfl<|.p0 rfl rfl fun x17 _=>.g 6 rfl<|.fi rfl rfl
     ·refine .g 9 rfl<|.p0 rfl rfl fun x18 _=>.g 4 rfl<|.fi rfl rfl
   ·intro h24
    refine .g 5 rfl<|?_
    refine .gd 29 rfl (fun _=>?_) fun _=>?_
    ·refine .g 5 rfl<|.jw (h24 (x11).Neg) [(2,2),(3,3)] rfl
    ·refine .g 5 rfl<|.jw (h24 false) [(2,2),(3,3)] rfl
 ·intro h26
  refine .g 4 rfl<|?_
  refine .gd 20 rfl (fun _=>?_) fun _=>?_
  ·refine .g 6 rfl<|.jw (h26 (!((x11).Neg))) [(2,2),(3,3)] rfl
  ·refine .g 6 rfl<|.jw (h26 false) [(2,2),(3,3)] rfl
instance r01_Bits_i (a0:List Int):PC (r01_Bits a0) Tryz.prog 175 [(slK (kInt .u32) a0)] (fun r=>(.int .i64 r)):=pc func175 (by kernel_rfl) rfl fun E=>by
 unfold r01_Bits
 refine .g 8 rfl<|.p0 rfl rfl fun x11 _=>.g 7 rfl<|.ln rfl rfl<|.g 3 rfl<|?_
 refine .cd rfl (fun _ _=>?_) fun _ _=>?_
 ·refine .g 7 rfl<|.fi rfl rfl
 ·refine .g 5 rfl<|.ln rfl rfl<|.g 10 rfl<|.ln rfl rfl<|.g 1 rfl<|.ix rfl rfl<|.g 4 rfl<|?_
  refine .cut (fun x:Int=>(r01_Bits_j1 x,[eI 4 x],[])) ?_ ?_
  ·rintro y16
   dsimp only [r01_Bits_j1]
   refine .g 8 rfl<|.fi rfl rfl
  ·intro h11
   refine .g 1 rfl<|?_
   refine .lp (fun n (x:Int × Int)=>r01_Bits_l2 n x.1 x.2) (fun x=>([eI 4 x.1,eW 5 x.2],[])) ((IntKind.i64.wrap (32*(IntKind.i64.wrap ((x11.length:Int)-1)))),(x11.getD ((IntKind.i64.wrap ((x11.length:Int)-1)).toNat) (kInt .u32).z)) [] rfl ?_
   rintro n2 ⟨y19,y20⟩
   try dsimp only
   rw [r01_Bits_l2]
   refine .g 7 rfl<|?_
   refine .cd rfl (fun _ _=>?_) fun _ _=>?_
   ·refine .g 16 rfl<|.ag ((IntKind.i64.wrap (y19+1)),(shrI .u32 y20 1)) [] rfl
   ·refine .g 4 rfl<|.jw (h11 y19) [] rfl
instance r05_size_i (a0:AD):PC (r05_size a0) Tryz.prog 179 [(.agg (kD.enc a0))] (fun r=>(.int .i64 r)):=pc func179 (by kernel_rfl) rfl fun E=>by
 unfold r05_size
 refine .g 13 rfl<|.p0 rfl rfl fun x2 _=>.g 2 rfl<|.dn (by kernel_rfl)<|.g 2 rfl<|.fi rfl rfl
instance r01_Shl_i (a0:List Int) (a1:Int):PC (r01_Shl a0 a1) Tryz.prog 255 [(slK (kInt .u32) a0),(.int .i64 a1)] (fun r=>(.tup [(slK (kInt .u32) r.1),(.bool r.2)])):=pc func255 (by kernel_rfl) rfl fun E=>by
 unfold r01_Shl
 refine .g 8 rfl<|?_
 refine .cut (fun x:Bool=>(r01_Shl_j1 a1 a0 x,[eL 0 a0,eI 1 a1,eB 15 x],[])) ?_ ?_
 ·rintro y17
  dsimp only [r01_Shl_j1]
  refine .g 1 rfl<|?_
  refine .cd rfl (fun _ _=>?_) fun _ _=>?_
  ·refine .g 8 rfl<|.fj rfl rfl (.tup (.cons AVle.nil (.cons (AVle.refl _) .nil)))
  ·refine .g 6 rfl<|.guard fun h4=>.sv (.row 0 (kInt .u32).sz 0 (((List.replicate ((IntKind.i64.wrap (a1.tdiv 32)).toNat) (kInt .u32).z)).length)) [(0,(rwK (kInt .u32) 130 (List.replicate ((IntKind.i64.wrap (a1.tdiv 32)).toNat) (kInt .u32).z)))] rfl (snd_makeK (kInt .u32) _ _ _ _ _ 0 _ _ _ rfl underlying22 ze130 sb130 (by decide) rfl rfl rfl rfl rfl h4) rfl<|.g 14 rfl<|?_
   refine .cut (fun x:Int × (List Int)=>(r01_Shl_j2 x.1 x.2,[(6,some (.row 0 (kInt .u32).sz 0 ((x.2).length))),eX 7 x.1],[(0,(rwK (kInt .u32) 130 x.2))])) ?_ ?_
   ·rintro ⟨y24,y25⟩
    dsimp only [r01_Shl_j2]
    refine .g 6 rfl<|.st rfl (bs (kInt .u32) [(IntKind.u32.wrap y24)] rfl rfl) rfl<|.guard fun h29=>.sv (.row 1 (kInt .u32).sz 0 (((y25++[(IntKind.u32.wrap y24)])).length)) [(1,(rwK (kInt .u32) 130 (y25++[(IntKind.u32.wrap y24)]))),(0,.dead)] rfl (snd_appendK (kInt .u32) _ _ _ _ _ 0 1 y25 [(IntKind.u32.wrap y24)] rfl underlying22 ze130 sb130 rfl rfl rfl rfl rfl rfl h29) rfl<|?_
    refine .weak ?_ (fun a w h=>Conc.freezeK (kInt .u32) h 46 1 0 (((y25++[(IntKind.u32.wrap y24)])).length) 130 (y25++[(IntKind.u32.wrap y24)]) rfl rfl (by omega))
    refine .weak ?_ (fun a w h=>take_all h)
    refine .p0 rfl rfl fun x26 _=>.g 5 rfl<|.fi rfl rfl
   ·intro h31
    refine .g 1 rfl<|?_
    refine .lp (fun n (x:Int × Int × (List Int))=>r01_Shl_l3 a0 a1 n x.1 x.2.1 x.2.2) (fun x=>([eL 0 a0,eI 1 a1,(6,some (.row 0 (kInt .u32).sz 0 ((x.2.2).length))),eX 7 x.1,eI 8 x.2.1],[(0,(rwK (kInt .u32) 130 x.2.2))])) (0,0,(List.replicate ((IntKind.i64.wrap (a1.tdiv 32)).toNat) (kInt .u32).z)) [(0,0)] rfl ?_
    rintro n3 ⟨y30,y31,y32⟩
    try dsimp only
    rw [r01_Shl_l3]
    refine .g 5 rfl<|.ln rfl rfl<|.g 3 rfl<|?_
    refine .cd rfl (fun _ _=>?_) fun _ _=>?_
    ·refine .g 8 rfl<|.ix rfl rfl<|.g 4 rfl<|.guard fun h54=>.st rfl (snd_shl _ _ _ _ _ _ _ _ rfl rfl rfl rfl rfl h54) rfl<|.g 10 rfl<|.st rfl (bs (kInt .u32) [(IntKind.u32.wrap (orI .u64 (shlI .u64 (IntKind.u64.wrap (a0.getD y31.toNat (kInt .u32).z)) (a1.tmod 32)) y30))] rfl rfl) rfl<|.guard fun h55=>.sv (.row 1 (kInt .u32).sz 0 (((y32++[(IntKind.u32.wrap (orI .u64 (shlI .u64 (IntKind.u64.wrap (a0.getD y31.toNat (kInt .u32).z)) (a1.tmod 32)) y30))])).length)) [(1,(rwK (kInt .u32) 130 (y32++[(IntKind.u32.wrap (orI .u64 (shlI .u64 (IntKind.u64.wrap (a0.getD y31.toNat (kInt .u32).z)) (a1.tmod 32)) y30))]))),(0,.dead)] rfl (snd_appendK (kInt .u32) _ _ _ _ _ 0 1 y32 [(IntKind.u32.wrap (orI .u64 (shlI .u64 (IntKind.u64.wrap (a0.getD y31.toNat (kInt .u32).z)) (a1.tmod 32)) y30))] rfl underlying22 ze130 sb130 rfl rfl rfl rfl rfl rfl h55) rfl<|.g 15 rfl<|.ag ((shrI .u64 (orI .u64 (shlI .u64 (IntKind.u64.wrap (a0.getD y31.toNat (kInt .u32).z)) (a1.tmod 32)) y30) 32),(IntKind.i64.wrap (y31+1)),(y32++[(IntKind.u32.wrap (orI .u64 (shlI .u64 (IntKind.u64.wrap (a0.getD y31.toNat (kInt .u32).z)) (a1.tmod 32)) y30))])) [(1,0)] rfl
    ·refine .g 4 rfl<|.jw (h31 (y30,y32)) [(0,0)] rfl
 ·intro h56
  refine .g 4 rfl<|?_
  refine .gd 12 rfl (fun _=>?_) fun _=>?_
  ·refine .g 4 rfl<|.jw (h56 true) [] rfl
  ·refine .g 4 rfl<|.jw (h56 (decide (a1>100000))) [] rfl
instance r05_up_i (a0:ApiInt) (a1:Int):PC (r05_up a0 a1) Tryz.prog 204 [(.agg (kN.enc a0)),(.int .i64 a1)] (fun r=>(.agg (kN.enc (r)))):=pc func204 (by kernel_rfl) rfl fun E=>by
 unfold r05_up
 refine .g 14 rfl<|?_
 refine .cut (fun x:(List Int)=>(r05_up_j1 a0 x,[eP 2 0,eP 4 1,eL 5 x],[(0,(.live 24 [(.bool a0.Neg),(slK (kInt .u32) a0.Mag)])),(1,(.live 24 [(.bool false),(slK (kInt .u32) [])]))])) ?_ ?_
 ·rintro y33
  dsimp only [r05_up_j1]
  refine .g 6 rfl<|.p0 rfl rfl fun x34 _=>.g 4 rfl<|.fi rfl rfl
 ·intro h14
  refine .g 1 rfl<|?_
  refine .lp (fun n (x:Int × (List Int))=>r05_up_l2 a0 n x.1 x.2) (fun x=>([eI 1 x.1,eP 2 0,eP 4 1,eL 5 x.2],[(0,(.live 24 [(.bool a0.Neg),(slK (kInt .u32) a0.Mag)])),(1,(.live 24 [(.bool false),(slK (kInt .u32) [])]))])) (a1,a0.Mag) [(0,0),(1,1)] rfl ?_
  rintro n2 ⟨y41,y42⟩
  try dsimp only
  rw [r05_up_l2]
  refine .g 7 rfl<|?_
  refine .cd rfl (fun _ _=>?_) fun _ _=>?_
  ·refine .g 14 rfl<|.p0 rfl rfl fun x44 _=>.g 13 rfl<|.ag ((IntKind.i64.wrap (y41-(mn y41 100000))),x44.1) [(0,0),(1,1)] rfl
  ·refine .g 4 rfl<|.jw (h14 y42) [(0,0),(1,1)] rfl
instance r05_lift_i (a0:AD) (a1:AD):PC (r05_lift a0 a1) Tryz.prog 180 [(.agg (kD.enc a0)),(.agg (kD.enc a1))] (fun r=>(.tup [(.agg (kN.enc (r.1))),(.agg (kN.enc (r.2.1))),(.int .i64 r.2.2)])):=pc func180 (by kernel_rfl) rfl fun E=>by
 unfold r05_lift
 refine .g 16 rfl<|.ln rfl rfl<|.g 4 rfl<|?_
 refine .cd rfl (fun _ _=>?_) fun _ _=>?_
 ·refine .g 10 rfl<|.dn (by kernel_rfl)<|.g 4 rfl<|.fi rfl rfl
 ·refine .g 5 rfl<|.ln rfl rfl<|.g 4 rfl<|?_
  refine .cd rfl (fun _ _=>?_) fun _ _=>?_
  ·refine .g 10 rfl<|.dn (by kernel_rfl)<|.g 4 rfl<|.fi rfl rfl
  ·refine .g 10 rfl<|?_
   refine .cd rfl (fun _ _=>?_) fun _ _=>?_
   ·refine .g 9 rfl<|.p0 rfl rfl fun x5 _=>.g 7 rfl<|.dn (by kernel_rfl)<|.g 4 rfl<|.fi rfl rfl
   ·refine .g 14 rfl<|.p0 rfl rfl fun x6 _=>.g 5 rfl<|.dn (by kernel_rfl)<|.g 2 rfl<|.fi rfl rfl
instance r05_Cmp_i (a0:AD) (a1:AD):PC (r05_Cmp a0 a1) Tryz.prog 108 [(.agg (kD.enc a0)),(.agg (kD.enc a1))] (fun r=>(.int .i64 r)):=pc func108 (by kernel_rfl) rfl fun E=>by
 unfold r05_Cmp
 refine .g 10 rfl<|.p0 rfl rfl fun x12 _=>.g 6 rfl<|.p0 rfl rfl fun x13 _=>.g 5 rfl<|?_
 refine .cut (fun x:Bool=>(r05_Cmp_j1 a0 a1 x,[eP 2 0,eP 3 1,eB 19 x],[(0,(.live 26 [(.bool a0.M.Neg),(slK (kInt .u32) a0.M.Mag),(.int .i64 a0.E)])),(1,(.live 26 [(.bool a1.M.Neg),(slK (kInt .u32) a1.M.Mag),(.int .i64 a1.E)]))])) ?_ ?_
 ·rintro y14
  dsimp only [r05_Cmp_j1]
  refine .g 1 rfl<|?_
  refine .cd rfl (fun _ _=>?_) fun _ _=>?_
  ·refine .g 7 rfl<|.fi rfl rfl
  ·refine .g 4 rfl<|?_
   refine .cut (fun x:Bool=>(r05_Cmp_j2 a0 a1 x,[eP 2 0,eP 3 1,eB 40 x],[(0,(.live 26 [(.bool a0.M.Neg),(slK (kInt .u32) a0.M.Mag),(.int .i64 a0.E)])),(1,(.live 26 [(.bool a1.M.Neg),(slK (kInt .u32) a1.M.Mag),(.int .i64 a1.E)]))])) ?_ ?_
   ·rintro y15
    dsimp only [r05_Cmp_j2]
    refine .g 1 rfl<|?_
    refine .cd rfl (fun _ _=>?_) fun _ _=>?_
    ·refine .g 6 rfl<|.p0 rfl rfl fun x16 _=>.g 5 rfl<|.fi rfl rfl
    ·refine .g 6 rfl<|.p0 rfl rfl fun x17 _=>.g 1 rfl<|.p0 rfl rfl fun x18 _=>.g 1 rfl<|.dn (by kernel_rfl)<|.g 1 rfl<|?_
     refine .cd rfl (fun _ _=>?_) fun _ _=>?_
     ·refine .g 4 rfl<|.p0 rfl rfl fun x19 _=>.g 1 rfl<|.p0 rfl rfl fun x20 _=>.g 5 rfl<|.dn (by kernel_rfl)<|.g 1 rfl<|?_
      refine .cd rfl (fun _ _=>?_) fun _ _=>?_
      ·refine .g 8 rfl<|.fi rfl rfl
      ·refine .g 9 rfl<|.fi rfl rfl
     ·refine .g 6 rfl<|.p0 rfl rfl fun x21 _=>.g 15 rfl<|.p0 rfl rfl fun x22 _=>.g 4 rfl<|.fi rfl rfl
   ·intro h21
    refine .g 9 rfl<|?_
    refine .gd 27 rfl (fun _=>?_) fun _=>?_
    ·refine .g 14 rfl<|.jw (h21 true) [(0,0),(1,1)] rfl
    ·refine .g 3 rfl<|.ln rfl rfl<|.g 3 rfl<|?_
     refine .gd 34 rfl (fun _=>?_) fun _=>?_
     ·refine .g 7 rfl<|.jw (h21 true) [(0,0),(1,1)] rfl
     ·refine .g 3 rfl<|.ln rfl rfl<|.g 3 rfl<|.jw (h21 ((a1.M.Mag.length:Int) == 0)) [(0,0),(1,1)] rfl
 ·intro h24
  refine .g 4 rfl<|?_
  refine .gd 16 rfl (fun _=>?_) fun _=>?_
  ·refine .g 4 rfl<|.jw (h24 true) [(0,0),(1,1)] rfl
  ·refine .g 4 rfl<|.jw (h24 (!x13)) [(0,0),(1,1)] rfl
instance r06_Right_i (a0:AI):PC (r06_Right a0) Tryz.prog 150 [(.agg (kI.enc a0))] (fun r=>(.bool r)):=pc func150 (by kernel_rfl) rfl fun E=>by
 unfold r06_Right
 refine .g 10 rfl<|.p0 rfl rfl fun x6 _=>.g 7 rfl<|.p0 rfl rfl fun x7 _=>.g 4 rfl<|?_
 refine .cut (fun x:Bool=>(r06_Right_j1 x,[eB 2 x],[])) ?_ ?_
 ·rintro y9
  dsimp only [r06_Right_j1]
  refine .g 2 rfl<|.fi rfl rfl
 ·intro h6
  refine .g 3 rfl<|?_
  refine .gd 12 rfl (fun _=>?_) fun _=>?_
  ·refine .g 3 rfl<|?_
   refine .gd 15 rfl (fun _=>?_) fun _=>?_
   ·refine .g 4 rfl<|.p0 rfl rfl fun x10 _=>.g 4 rfl<|.jw (h6 (decide (x10≤0))) [] rfl
   ·refine .g 9 rfl<|.jw (h6 false) [] rfl
  ·refine .g 12 rfl<|.jw (h6 false) [] rfl
instance r06_Has_i (a0:AI) (a1:AD):PC (r06_Has a0 a1) Tryz.prog 75 [(.agg (kI.enc a0)),(.agg (kD.enc a1))] (fun r=>(.bool r)):=pc func75 (by kernel_rfl) rfl fun E=>by
 unfold r06_Has
 refine .g 10 rfl<|.p0 rfl rfl fun x8 _=>.g 6 rfl<|.p0 rfl rfl fun x9 _=>.g 4 rfl<|?_
 refine .cut (fun x:Bool=>(r06_Has_j1 x,[eB 4 x],[])) ?_ ?_
 ·rintro y12
  dsimp only [r06_Has_j1]
  refine .g 2 rfl<|.fi rfl rfl
 ·intro h8
  refine .g 3 rfl<|?_
  refine .gd 12 rfl (fun _=>?_) fun _=>?_
  ·refine .g 3 rfl<|?_
   refine .gd 15 rfl (fun _=>?_) fun _=>?_
   ·refine .g 3 rfl<|.p0 rfl rfl fun x13 _=>.g 3 rfl<|?_
    refine .gd 22 rfl (fun _=>?_) fun _=>?_
    ·refine .g 3 rfl<|.p0 rfl rfl fun x14 _=>.g 4 rfl<|.jw (h8 (decide (x14≤0))) [] rfl
    ·refine .g 8 rfl<|.jw (h8 false) [] rfl
   ·refine .g 15 rfl<|.jw (h8 false) [] rfl
  ·refine .g 18 rfl<|.jw (h8 false) [] rfl
instance l12_examples_i:PC (l12_examples) Tryz.prog 56 [] (fun r=>(.bool r)):=pc func56 (by kernel_rfl) rfl fun E=>by
 unfold l12_examples
 refine .g 7 rfl<|.p0 rfl rfl fun x12 _=>.p0 rfl rfl fun x13 _=>.g 10 rfl<|.p0 rfl rfl fun x14 _=>.g 10 rfl<|.p0 rfl rfl fun x15 _=>.g 11 rfl<|.p0 rfl rfl fun x16 _=>.p0 rfl rfl fun x17 _=>.g 9 rfl<|?_
 refine .cut (fun x:Bool=>(l12_examples_j1 x,[eB 0 x],[])) ?_ ?_
 ·rintro y20
  dsimp only [l12_examples_j1]
  refine .g 2 rfl<|.fi rfl rfl
 ·intro h16
  refine .g 4 rfl<|?_
  refine .gd 32 rfl (fun _=>?_) fun _=>?_
  ·refine .g 4 rfl<|?_
   refine .gd 36 rfl (fun _=>?_) fun _=>?_
   ·refine .g 4 rfl<|?_
    refine .gd 40 rfl (fun _=>?_) fun _=>?_
    ·refine .g 4 rfl<|?_
     refine .gd 44 rfl (fun _=>?_) fun _=>?_
     ·refine .g 4 rfl<|?_
      refine .gd 48 rfl (fun _=>?_) fun _=>?_
      ·refine .g 3 rfl<|?_
       refine .gd 51 rfl (fun _=>?_) fun _=>?_
       ·refine .g 4 rfl<|?_
        refine .gd 55 rfl (fun _=>?_) fun _=>?_
        ·refine .g 1 rfl<|.p0 rfl rfl fun x21 _=>.p0 rfl rfl fun x22 _=>.g 2 rfl<|.dn (by kernel_rfl)<|.jw (h16 x22) [] rfl
        ·refine .g 5 rfl<|.dn (by kernel_rfl)<|.jw (h16 false) [] rfl
       ·refine .g 9 rfl<|.dn (by kernel_rfl)<|.jw (h16 false) [] rfl
      ·refine .g 12 rfl<|.dn (by kernel_rfl)<|.jw (h16 false) [] rfl
     ·refine .g 16 rfl<|.dn (by kernel_rfl)<|.jw (h16 false) [] rfl
    ·refine .g 20 rfl<|.dn (by kernel_rfl)<|.jw (h16 false) [] rfl
   ·refine .g 24 rfl<|.dn (by kernel_rfl)<|.jw (h16 false) [] rfl
  ·refine .g 28 rfl<|.dn (by kernel_rfl)<|.jw (h16 false) [] rfl
instance l12_prec_i (a0:Int):PC (l12_prec a0) Tryz.prog 69 [(.int .i64 a0)] (fun r=>(.int .i64 r)):=pc func69 (by kernel_rfl) rfl fun E=>by
 unfold l12_prec
 refine .g 12 rfl<|?_
 refine .cut (fun x:Int=>(l12_prec_j1 x,[eI 0 x],[])) ?_ ?_
 ·rintro y2
  dsimp only [l12_prec_j1]
  refine .g 10 rfl<|.fi rfl rfl
 ·intro h3
  refine .cd rfl (fun _ _=>?_) fun _ _=>?_
  ·refine .g 6 rfl<|.jw (h3 (IntKind.i64.wrap (0-(IntKind.i64.wrap (a0+1))))) [] rfl
  ·refine .g 1 rfl<|.jw (h3 a0) [] rfl
instance r05_inRange_i (a0:AD):PC (r05_inRange a0) Tryz.prog 152 [(.agg (kD.enc a0))] (fun r=>(.bool r)):=pc func152 (by kernel_rfl) rfl fun E=>by
 unfold r05_inRange
 refine .g 12 rfl<|.ln rfl rfl<|.g 3 rfl<|?_
 refine .cd rfl (fun _ _=>?_) fun _ _=>?_
 ·refine .g 7 rfl<|.fi rfl rfl
 ·refine .g 5 rfl<|.p0 rfl rfl fun x5 _=>.g 4 rfl<|?_
  refine .cut (fun x:Bool=>(r05_inRange_j1 x,[eB 2 x],[])) ?_ ?_
  ·rintro y7
   dsimp only [r05_inRange_j1]
   refine .g 2 rfl<|.fi rfl rfl
  ·intro h9
   refine .g 4 rfl<|?_
   refine .gd 13 rfl (fun _=>?_) fun _=>?_
   ·refine .g 4 rfl<|?_
    refine .gd 17 rfl (fun _=>?_) fun _=>?_
    ·refine .g 5 rfl<|?_
     refine .gd 22 rfl (fun _=>?_) fun _=>?_
     ·refine .g 5 rfl<|?_
      refine .gd 27 rfl (fun _=>?_) fun _=>?_
      ·refine .g 3 rfl<|.p0 rfl rfl fun x8 _=>.g 4 rfl<|.jw (h9 (decide (x8≤262144))) [] rfl
      ·refine .g 8 rfl<|.jw (h9 false) [] rfl
     ·refine .g 13 rfl<|.jw (h9 false) [] rfl
    ·refine .g 18 rfl<|.jw (h9 false) [] rfl
   ·refine .g 22 rfl<|.jw (h9 false) [] rfl
instance r05_Make_i (a0:ApiInt) (a1:Int):PC (r05_Make a0 a1) Tryz.prog 76 [(.agg (kN.enc a0)),(.int .i64 a1)] (fun r=>(.tup [(.agg (kD.enc (⟨((r.1).M),(r.1).E⟩:AD))),(.bool r.2)])):=pc func76 (by kernel_rfl) rfl fun E=>by
 unfold r05_Make
 refine .g 9 rfl<|?_
 refine .cut (fun x:Bool=>(r05_Make_j1 a0 a1 x,[eI 1 a1,eP 2 0,eP 4 1,eB 13 x],[(0,(.live 24 [(.bool a0.Neg),(slK (kInt .u32) a0.Mag)])),(1,(.live 26 [(.bool false),(slK (kInt .u32) []),(.int .i64 0)]))])) ?_ ?_
 ·rintro y4
  dsimp only [r05_Make_j1]
  refine .g 1 rfl<|?_
  refine .cd rfl (fun _ _=>?_) fun _ _=>?_
  ·refine .g 9 rfl<|.fi rfl rfl
  ·refine .g 6 rfl<|.p0 rfl rfl fun x5 _=>.g 7 rfl<|.p0 rfl rfl fun x6 _=>.g 10 rfl<|?_
   refine .cd rfl (fun _ _=>?_) fun _ _=>?_
   ·refine .g 9 rfl<|.fi rfl rfl
   ·refine .g 10 rfl<|.fi rfl rfl
 ·intro h8
  refine .g 4 rfl<|?_
  refine .gd 10 rfl (fun _=>?_) fun _=>?_
  ·refine .g 4 rfl<|.jw (h8 true) [(0,0),(1,1)] rfl
  ·refine .g 4 rfl<|.jw (h8 (decide (a1>100000))) [(0,0),(1,1)] rfl
instance l12_place_i (a0:AD):PC (l12_place a0) Tryz.prog 57 [(.agg (kD.enc a0))] (fun r=>(.agg (kD.enc (⟨((r).M),(r).E⟩:AD)))):=pc func57 (by kernel_rfl) rfl fun E=>by
 unfold l12_place
 refine .g 17 rfl<|.ln rfl rfl<|.g 3 rfl<|?_
 refine .cut (fun x:Int=>(l12_place_j1 x,[eP 2 1,eW 3 x],[(1,(.live 26 [(.bool false),(slK (kInt .u32) []),(.int .i64 0)]))])) ?_ ?_
 ·rintro y4
  dsimp only [l12_place_j1]
  refine .g 5 rfl<|.st rfl (bs (kInt .u32) [(mx y4 1)] rfl rfl) rfl<|.p0 rfl rfl fun x5 _=>.p0 rfl rfl fun x6 _=>.g 15 rfl<|.fi rfl rfl
 ·intro h6
  refine .cd rfl (fun _ _=>?_) fun _ _=>?_
  ·refine .g 4 rfl<|.ix rfl rfl<|.g 3 rfl<|.jw (h6 (a0.M.Mag.getD 0 (kInt .u32).z)) [(1,1)] rfl
  ·refine .g 1 rfl<|.jw (h6 0) [(1,1)] rfl
instance cv_Meet_i (a0:AI) (a1:AI) (a2:Int) (a3:Int):CC (cv_Meet a0 a1 a2 a3) Tryz.prog 22 [(.ptr 0 0),(.agg (kI.enc a0)),(.agg (kI.enc a1))] [(.live 47 [(.int .i64 a2),(.int .i64 a3)])] (fun r=>(.agg (kI.enc (⟨⟨(((r.1).Lo).M),((r.1).Lo).E⟩,⟨(((r.1).Hi).M),((r.1).Hi).E⟩⟩:AI)))) (fun r=>[(.live 47 [(.int .i64 r.2),(.int .i64 a3)])]):=cc func22 (by kernel_rfl) rfl fun E=>by
 unfold cv_Meet
 refine .g 13 rfl<|.st rfl (bs kI [a0,a1] rfl rfl) rfl<|.bind fun x6 h1=>.st rfl (cl (CC.h h1) [0] [] [true] rfl (.p rfl<|.l<|.nil) (.p rfl (.i<|.i<|.nil) .nil) fnil (.cons (.v (.i<|.i<|.nil)) .nil) (.bool _) (.turned .nil) rfl) rfl<|.g 3 rfl<|?_
 refine .cd rfl (fun _ _=>?_) fun _ _=>?_
 ·refine .g 8 rfl<|.fi rfl rfl
 ·refine .g 8 rfl<|.st rfl (bs kD [a0.Lo,a1.Lo] rfl rfl) rfl<|.p0 rfl rfl fun x7 _=>.g 15 rfl<|.st rfl (bs kD [a0.Hi,a1.Hi] rfl rfl) rfl<|.p0 rfl rfl fun x8 _=>.g 14 rfl<|.p0 rfl rfl fun x9 _=>.g 3 rfl<|?_
  refine .cd rfl (fun _ _=>?_) fun _ _=>?_
  ·refine .g 5 rfl<|.bind fun x10 h9=>.st rfl (cl (CC.h h9) [0] [] [true] rfl (.p rfl<|.i<|.nil) (.p rfl (.i<|.i<|.nil) .nil) fnil (.cons (.v (.i<|.i<|.nil)) .nil) (.bool _) (.turned .nil) rfl) rfl<|.g 10 rfl<|.fi rfl rfl
  ·refine .g 11 rfl<|.fi rfl rfl
instance dyad_Sub_i (a0:AD) (a1:AD):PC (dyad_Sub a0 a1) Tryz.prog 31 [(.agg (kD.enc a0)),(.agg (kD.enc a1))] (fun r=>(.tup [(.agg (kD.enc (⟨((r.1).M),(r.1).E⟩:AD))),(.int .i64 r.2)])):=pc func31 (by kernel_rfl) rfl fun E=>by
 unfold dyad_Sub
 refine .g 21 rfl<|.st rfl (bs kD [a0,a1] rfl rfl) rfl<|.bind fun x10 h1=>.st rfl (cl (CC.h h1) [3] [] [true] rfl (.p rfl<|.l<|.nil) (.p rfl (.i<|.b<|.l<|.i<|.nil) .nil) fnil (.cons (.v (.i<|.b<|.l<|.i<|.nil)) .nil) (.bool _) (.turned .nil) rfl) rfl<|.g 2 rfl<|?_
 refine .cut (fun x:Bool × (List Int) × Int=>(dyad_Sub_j1 x10 x.1 x.2.1 x.2.2,[eP 4 2,eP 6 3],[(2,(.live 26 [(.bool false),(slK (kInt .u32) []),(.int .i64 0)])),(3,(.live 87 [(.int .i64 x10.2),(.bool x.1),(slK (kInt .u32) x.2.1),(.int .i64 x.2.2)]))])) ?_ ?_
 ·rintro ⟨y13,y14,y15⟩
  dsimp only [dyad_Sub_j1]
  refine .g 4 rfl<|.bind fun x16 h6=>.st rfl (cl (CC.h h6) [3] [] [true] rfl (.p rfl<|.nil) (.p rfl (.i<|.b<|.l<|.i<|.nil) .nil) fnil (.cons (.v (.i<|.b<|.l<|.i<|.nil)) .nil) (ren_tupL (.a kD<|.i<|.nil)) (.turned .nil) rfl) rfl<|.g 7 rfl<|.fi rfl rfl
 ·intro h7
  refine .cd rfl (fun _ _=>?_) fun _ _=>?_
  ·refine .g 4 rfl<|.p0 rfl rfl fun x17 _=>.p0 rfl rfl fun x18 _=>.g 3 rfl<|.dn (by kernel_rfl)<|.jw (h7 (((x18).M).Neg,((x18).M).Mag,(x18).E)) [(2,2),(3,3)] rfl
  ·refine .g 1 rfl<|.jw (h7 (false,[],0)) [(2,2),(3,3)] rfl
instance l12_GammStep_i (a0:AD) (a1:Int):PC (l12_GammStep a0 a1) Tryz.prog 13 [(.agg (kD.enc a0)),(.int .i64 a1)] (fun r=>(.bool r)):=pc func13 (by kernel_rfl) rfl fun E=>by
 unfold l12_GammStep
 refine .g 8 rfl<|.p0 rfl rfl fun x25 _=>.g 10 rfl<|?_
 refine .cd rfl (fun _ _=>?_) fun _ _=>?_
 ·refine .g 7 rfl<|.fi rfl rfl
 ·refine .g 5 rfl<|.p0 rfl rfl fun x26 _=>.g 6 rfl<|.bind fun x27 h5=>?_
  rcases x27 with x28 | x29
  ·dsimp only
   refine .st rfl (cl (iv_New_k_0 h5) [] [1] [true] rfl (.i<|.nil) .nil (fresh_cons rfl fnil) (.cons .dead .nil) (ren_tupL (.cons .nilptr<|.i<|.nil)) (.turned .nil) rfl) rfl<|.g 26 rfl<|.fi rfl rfl
  ·dsimp only
   refine .st rfl (cl (iv_New_k_1 h5) [] [1] [true] rfl (.i<|.nil) .nil (fresh_cons rfl fnil) (.cons (.v (.i<|.i<|.nil)) .nil) (ren_tupL (.p rfl<|.i<|.nil)) (.turned .nil) rfl) rfl<|.g 18 rfl<|?_
   refine .cd rfl (fun _ _=>?_) fun _ _=>?_
   ·refine .g 7 rfl<|.fi rfl rfl
   ·refine .g 5 rfl<|.p0 rfl rfl fun x30 _=>.g 7 rfl<|.p0 rfl rfl fun x31 _=>.p0 rfl rfl fun x32 _=>.g 6 rfl<|.dn (by kernel_rfl)<|.g 5 rfl<|.p0 rfl rfl fun x33 _=>.g 12 rfl<|.p0 rfl rfl fun x34 _=>.g 14 rfl<|.bind fun x35 h13=>.st rfl (cl (CC.h h13) [1] [] [true] rfl (.p rfl<|.a kD<|.nil) (.p rfl (.i<|.i<|.nil) .nil) fnil (.cons (.v (.i<|.i<|.nil)) .nil) (ren_agg (K:=kI) _) (.turned .nil) rfl) rfl<|?_
    refine .g 1 rfl<|.bind fun x36 h14=>.st rfl (cl (CC.h h14) [1] [] [true] rfl (.p rfl<|.a kI<|.a kI<|.nil) (.p rfl (.i<|.i<|.nil) .nil) fnil (.cons (.v (.i<|.i<|.nil)) .nil) (ren_agg (K:=kI) _) (.turned .nil) rfl) rfl<|.g 1 rfl<|.bind fun x37 h15=>.st rfl (cl (CC.h h15) [1] [] [true] rfl (.p rfl<|.a kI<|.a kI<|.nil) (.p rfl (.i<|.i<|.nil) .nil) fnil (.cons (.v (.i<|.i<|.nil)) .nil) (ren_agg (K:=kI) _) (.turned .nil) rfl) rfl<|.dn (by kernel_rfl)<|.g 7 rfl<|.p0 rfl rfl fun x38 _=>.g 12 rfl<|.p0 rfl rfl fun x39 _=>.g 8 rfl<|?_
    refine .cut (fun x:Bool=>(l12_GammStep_j1 x,[eB 4 x],[])) ?_ ?_
    ·rintro y44
     dsimp only [l12_GammStep_j1]
     refine .g 2 rfl<|.fi rfl rfl
    ·intro h30
     refine .g 3 rfl<|?_
     refine .gd 79 rfl (fun _=>?_) fun _=>?_
     ·refine .g 4 rfl<|?_
      refine .gd 83 rfl (fun _=>?_) fun _=>?_
      ·refine .g 4 rfl<|?_
       refine .gd 87 rfl (fun _=>?_) fun _=>?_
       ·refine .g 4 rfl<|?_
        refine .gd 91 rfl (fun _=>?_) fun _=>?_
        ·refine .g 4 rfl<|?_
         refine .gd 95 rfl (fun _=>?_) fun _=>?_
         ·refine .g 3 rfl<|?_
          refine .gd 98 rfl (fun _=>?_) fun _=>?_
          ·refine .g 3 rfl<|.bind fun x45 h37=>.st rfl (cl (CC.h h37) [1] [] [false] rfl (.p rfl<|.nil) (.p rfl (.i<|.i<|.nil) .nil) fnil (.cons (.v (.i<|.i<|.nil)) .nil) (.int _ _) (.kept rfl .nil) rfl) rfl<|.g 3 rfl<|?_
           refine .gd 105 rfl (fun _=>?_) fun _=>?_
           ·refine .g 3 rfl<|.p0 rfl rfl fun x46 _=>.g 3 rfl<|?_
            refine .gd 112 rfl (fun _=>?_) fun _=>?_
            ·refine .g 5 rfl<|.p0 rfl rfl fun x47 _=>.p0 rfl rfl fun x48 _=>.g 3 rfl<|.dn (by kernel_rfl)<|.jw (h30 (decide (x48≤0))) [] rfl
            ·refine .g 10 rfl<|.dn (by kernel_rfl)<|.jw (h30 false) [] rfl
           ·refine .g 17 rfl<|.dn (by kernel_rfl)<|.jw (h30 false) [] rfl
          ·refine .g 24 rfl<|.dn (by kernel_rfl)<|.jw (h30 false) [] rfl
         ·refine .g 27 rfl<|.dn (by kernel_rfl)<|.jw (h30 false) [] rfl
        ·refine .g 31 rfl<|.dn (by kernel_rfl)<|.jw (h30 false) [] rfl
       ·refine .g 35 rfl<|.dn (by kernel_rfl)<|.jw (h30 false) [] rfl
      ·refine .g 39 rfl<|.dn (by kernel_rfl)<|.jw (h30 false) [] rfl
     ·refine .g 43 rfl<|.dn (by kernel_rfl)<|.jw (h30 false) [] rfl
end Go.Proofs.YtjfcghliglfapabGreat.Gen
