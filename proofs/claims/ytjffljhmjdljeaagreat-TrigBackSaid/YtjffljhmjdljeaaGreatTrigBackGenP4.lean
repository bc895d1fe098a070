/- Printed by geng.py: a call does what the plain function says. -/
import Derived.Test.YtjffljhmjdljeaaGreatTrigBackGenP3
set_option linter.unusedVariables false
set_option linter.unusedSimpArgs false
set_option maxRecDepth 4000
namespace Go.Proofs.YtjffljhmjdljeaaGreat.Gen
open Go Go.Abs Go.Proofs Go.Proofs.Tryz
instance small_plain_c50f_i (a0:AI) (a1:Int) (a2:Int) (a3:Bool) (a4:List Int) (a5:Int) (a6:Bool) (a7:List Int) (a8:Int):CC (small_plain_c50f a0 a1 a2 a3 a4 a5 a6 a7 a8) Tryz.prog 200 [(.ptr 0 0),(.agg (kI.enc a0)),(.fn 201 [] [(.ptr 1 0),(.ptr 2 0)])] [(.live 54 [(.int .i64 a1),(.int .i64 a2)]),(.live 29 [(.ptr 0 0)]),(.live 37 [(.bool a3),(slK (kInt .u32) a4),(.int .i64 a5),(.bool a6),(slK (kInt .u32) a7),(.int .i64 a8)])] (fun r=>(.agg (kI.enc (⟨⟨(((r.1).Lo).M),((r.1).Lo).E⟩,⟨(((r.1).Hi).M),((r.1).Hi).E⟩⟩:AI)))) (fun r=>[(.live 54 [(.int .i64 r.2),(.int .i64 a2)]),(.live 29 [(.ptr 0 0)]),(.live 37 [(.bool a3),(slK (kInt .u32) a4),(.int .i64 a5),(.bool a6),(slK (kInt .u32) a7),(.int .i64 a8)])]):=cc func200 (by kernel_rfl) rfl fun E=>by
 unfold small_plain_c50f
 refine .g 12 rfl<|.bind fun x2 h1=>.st rfl (cl (CC.h h1) [0,4,1,2] [] [true,false,false,false] rfl (.p rfl<|.a kI<|.cons (ren_fnL _ .nil (.p rfl<|.nil))<|.nil) (.p rfl (.i<|.i<|.nil) (.p rfl (.cons (ren_fnL _ .nil (.p rfl<|.p rfl<|.nil))<|.nil) (.p rfl (.p rfl<|.nil) (.p rfl (.b<|.l<|.i<|.b<|.l<|.i<|.nil) .nil)))) fnil (.cons (.v (.i<|.i<|.nil)) (.cons (.v (.cons (ren_fnL _ .nil (.p rfl<|.p rfl<|.nil))<|.nil)) (.cons (.v (.p rfl<|.nil)) (.cons (.v (.b<|.l<|.i<|.b<|.l<|.i<|.nil)) .nil)))) (ren_agg (K:=kI) _) (.turned (.kept rfl (.kept rfl (.kept rfl .nil)))) rfl) rfl<|.g 4 rfl<|.fi rfl rfl
instance small_Sin_i (a0:AI) (a1:Int) (a2:Int):CC (small_Sin a0 a1 a2) Tryz.prog 133 [(.ptr 0 0),(.agg (kI.enc a0))] [(.live 54 [(.int .i64 a1),(.int .i64 a2)])] (fun r=>(.agg (kI.enc (⟨⟨(((r.1).Lo).M),((r.1).Lo).E⟩,⟨(((r.1).Hi).M),((r.1).Hi).E⟩⟩:AI)))) (fun r=>[(.live 54 [(.int .i64 r.2),(.int .i64 a2)])]):=cc func133 (by kernel_rfl) rfl fun E=>by
 unfold small_Sin
 refine .g 12 rfl<|.bind fun x4 h1=>.st rfl (cl (CC.h h1) [0] [] [true] rfl (.p rfl<|.a kI<|.i<|.nil) (.p rfl (.i<|.i<|.nil) .nil) fnil (.cons (.v (.i<|.i<|.nil)) .nil) (.bool _) (.turned .nil) rfl) rfl<|.g 3 rfl<|?_
 refine .cd rfl (fun _ _=>?_) fun _ _=>?_
 ·refine .g 8 rfl<|.fi rfl rfl
 ·refine .g 7 rfl<|.bind fun x5 h4=>.st rfl (cl (CC.h h4) [0] [] [true] rfl (.p rfl<|.a kI<|.a kI<|.nil) (.p rfl (.i<|.i<|.nil) .nil) fnil (.cons (.v (.i<|.i<|.nil)) .nil) (ren_agg (K:=kI) _) (.turned .nil) rfl) rfl<|.g 9 rfl<|.bind fun x6 h5=>.st rfl (cl (CC.h h5) [0,1,4] [] [true,false,false] rfl (.p rfl<|.a kI<|.cons (ren_fnL _ .nil (.p rfl<|.p rfl<|.nil))<|.nil) (.p rfl (.i<|.i<|.nil) (.p rfl (.p rfl<|.nil) (.p rfl (.b<|.l<|.i<|.b<|.l<|.i<|.nil) .nil))) fnil (.cons (.v (.i<|.i<|.nil)) (.cons (.v (.p rfl<|.nil)) (.cons (.v (.b<|.l<|.i<|.b<|.l<|.i<|.nil)) .nil))) (ren_agg (K:=kI) _) (.turned (.kept rfl (.kept rfl .nil))) rfl) rfl<|.g 4 rfl<|.fi rfl rfl
instance trig_one_func_a_api_Iv_api_Iv_4a04_i (a0:Int) (a1:Int) (a2:Int):CC (trig_one_func_a_api_Iv_api_Iv_4a04 a0 a1 a2) Tryz.prog 135 [(.int .i64 a0),(.sl [[(.fn 136 [] [])],[(.fn 20 [(.ptr 0 0)] [])]])] [(.live 54 [(.int .i64 a1),(.int .i64 a2)])] (fun r=>(match r with | (Sum.inl y)=>(.fn 136 [] []) | (Sum.inr y)=>(.fn 20 [(.ptr 0 0)] []))) (fun r=>(match r with | (Sum.inl y)=>[(.live 54 [(.int .i64 a1),(.int .i64 a2)])] | (Sum.inr y)=>[(.live 54 [(.int .i64 a1),(.int .i64 a2)])])):=cc func135 (by kernel_rfl) rfl fun E=>by
 unfold trig_one_func_a_api_Iv_api_Iv_4a04
 refine .g 10 rfl<|.sv (.int .i64 2) [] rfl (snd_len _ _ _ _ _ rfl underlying192 rfl rfl rfl rfl) rfl<|.g 2 rfl<|?_
 refine .ite (fun h1=>?_) (fun h1=>?_)
 ·refine .sv (.iptr [(.fn 136 [] [])]) [] rfl (snd_index_at 0 _ _ _ _ _ _ _ _ rfl underlying192 si44 rfl rfl rfl rfl (by intro e he; simp at he; rcases he with rfl | rfl<;>rfl) rfl h1 rfl) rfl<|.g 5 rfl<|.fi rfl rfl
 ·refine .ite (fun h2=>?_) (fun h2=>?_)
  ·refine .sv (.iptr [(.fn 20 [(.ptr 0 0)] [])]) [] rfl (snd_index_at 1 _ _ _ _ _ _ _ _ rfl underlying192 si44 rfl rfl rfl rfl (by intro e he; simp at he; rcases he with rfl | rfl<;>rfl) rfl h2 rfl) rfl<|.g 5 rfl<|.fi rfl rfl
  ·exact .no
theorem trig_one_func_a_api_Iv_api_Iv_4a04_k_0 {a0:Int} {a1:Int} {a2:Int} {r:Unit} (h:trig_one_func_a_api_Iv_api_Iv_4a04 a0 a1 a2=some (Sum.inl r)):Cal Tryz.prog 135 [(.int .i64 a0),(.sl [[(.fn 136 [] [])],[(.fn 20 [(.ptr 0 0)] [])]])] [(.live 54 [(.int .i64 a1),(.int .i64 a2)])] (.fn 136 [] []) [(.live 54 [(.int .i64 a1),(.int .i64 a2)])]:=CC.h h
theorem trig_one_func_a_api_Iv_api_Iv_4a04_k_1 {a0:Int} {a1:Int} {a2:Int} {r:Unit} (h:trig_one_func_a_api_Iv_api_Iv_4a04 a0 a1 a2=some (Sum.inr r)):Cal Tryz.prog 135 [(.int .i64 a0),(.sl [[(.fn 136 [] [])],[(.fn 20 [(.ptr 0 0)] [])]])] [(.live 54 [(.int .i64 a1),(.int .i64 a2)])] (.fn 20 [(.ptr 0 0)] []) [(.live 54 [(.int .i64 a1),(.int .i64 a2)])]:=CC.h h
instance trig_quarter_1_i (a0:AI):PC (trig_quarter_1 a0) Tryz.prog 136 [(.agg (kI.enc a0))] (fun r=>(.agg (kI.enc (⟨⟨(((r).Lo).M),((r).Lo).E⟩,⟨(((r).Hi).M),((r).Hi).E⟩⟩:AI)))):=pc func136 (by kernel_rfl) rfl fun E=>by
 unfold trig_quarter_1
 refine .g 13 rfl<|.fi rfl rfl
instance cv_Out_i (a0:AI) (a1:Int) (a2:Int):CC (cv_Out a0 a1 a2) Tryz.prog 130 [(.ptr 0 0),(.agg (kI.enc a0))] [(.live 54 [(.int .i64 a1),(.int .i64 a2)])] (fun r=>(.agg (kI.enc (⟨⟨(((r.1).Lo).M),((r.1).Lo).E⟩,⟨(((r.1).Hi).M),((r.1).Hi).E⟩⟩:AI)))) (fun r=>[(.live 54 [(.int .i64 r.2),(.int .i64 a2)])]):=cc func130 (by kernel_rfl) rfl fun E=>by
 unfold cv_Out
 refine .g 11 rfl<|.st rfl (bs kI [a0] rfl rfl) rfl<|.bind fun x5 h1=>.st rfl (cl (CC.h h1) [0] [] [true] rfl (.p rfl<|.l<|.nil) (.p rfl (.i<|.i<|.nil) .nil) fnil (.cons (.v (.i<|.i<|.nil)) .nil) (.bool _) (.turned .nil) rfl) rfl<|.g 3 rfl<|?_
 refine .cd rfl (fun _ _=>?_) fun _ _=>?_
 ·refine .g 8 rfl<|.fi rfl rfl
 ·refine .g 7 rfl<|.bind fun x6 h4=>.st rfl (cl (CC.h h4) [0] [] [true] rfl (.p rfl<|.a kD<|.nil) (.p rfl (.i<|.i<|.nil) .nil) fnil (.cons (.v (.i<|.i<|.nil)) .nil) (ren_agg (K:=kD) _) (.turned .nil) rfl) rfl<|.g 11 rfl<|.bind fun x7 h5=>.st rfl (cl (CC.h h5) [0] [] [true] rfl (.p rfl<|.a kD<|.nil) (.p rfl (.i<|.i<|.nil) .nil) fnil (.cons (.v (.i<|.i<|.nil)) .nil) (ren_agg (K:=kD) _) (.turned .nil) rfl) rfl<|.bind fun x8 h6=>.st rfl (cl (CC.h h6) [0] [] [false] rfl (.p rfl<|.a kD<|.a kD<|.nil) (.p rfl (.i<|.i<|.nil) .nil) fnil (.cons (.v (.i<|.i<|.nil)) .nil) (ren_agg (K:=kI) _) (.kept rfl .nil) rfl) rfl<|.g 1 rfl<|.dn (by kernel_rfl)<|.g 2 rfl<|.fi rfl rfl
instance trig_done_i (a0:AI) (a1:Int) (a2:Int) (a3:Int):CC (trig_done a0 a1 a2 a3) Tryz.prog 68 [(.ptr 0 0),(.agg (kI.enc a0)),(.int .i64 a1)] [(.live 54 [(.int .i64 a2),(.int .i64 a3)])] (fun r=>(.tup [(.agg (kI.enc (⟨⟨(((r.1).Lo).M),((r.1).Lo).E⟩,⟨(((r.1).Hi).M),((r.1).Hi).E⟩⟩:AI))),(.int .i64 r.2)])) (fun r=>[(.live 54 [(.int .i64 a2),(.int .i64 a3)])]):=cc func68 (by kernel_rfl) rfl fun E=>by
 unfold trig_done
 refine .g 13 rfl<|.bind fun x7 h1=>.st rfl (cl (CC.h h1) [0] [] [false] rfl (.p rfl<|.nil) (.p rfl (.i<|.i<|.nil) .nil) fnil (.cons (.v (.i<|.i<|.nil)) .nil) (.int _ _) (.kept rfl .nil) rfl) rfl<|.g 9 rfl<|?_
 refine .cd rfl (fun _ _=>?_) fun _ _=>?_
 ·refine .g 10 rfl<|.fi rfl rfl
 ·refine .g 5 rfl<|.bind fun x8 h4=>?_
  rcases x8 with x9 | x10
  ·dsimp only
   refine .st rfl (cl (iv_New_k_0 h4) [] [3] [true] rfl (.i<|.nil) .nil (fresh_cons rfl fnil) (.cons .dead .nil) (ren_tupL (.cons .nilptr<|.i<|.nil)) (.turned .nil) rfl) rfl<|.g 11 rfl<|.no
  ·dsimp only
   refine .st rfl (cl (iv_New_k_1 h4) [] [3] [true] rfl (.i<|.nil) .nil (fresh_cons rfl fnil) (.cons (.v (.i<|.i<|.nil)) .nil) (ren_tupL (.p rfl<|.i<|.nil)) (.turned .nil) rfl) rfl<|.g 11 rfl<|.bind fun x11 h5=>.st rfl (cl (CC.h h5) [3] [] [true] rfl (.p rfl<|.a kI<|.nil) (.p rfl (.i<|.i<|.nil) .nil) fnil (.cons (.v (.i<|.i<|.nil)) .nil) (ren_agg (K:=kI) _) (.turned .nil) rfl) rfl<|.g 10 rfl<|.bind fun x12 h6=>.st rfl (cl (CC.h h6) [3] [] [false] rfl (.p rfl<|.nil) (.p rfl (.i<|.i<|.nil) .nil) fnil (.cons (.v (.i<|.i<|.nil)) .nil) (.int _ _) (.kept rfl .nil) rfl) rfl<|.g 2 rfl<|.dn (by kernel_rfl)<|.g 2 rfl<|.fi rfl rfl
instance small_Cos_1_i (a0:Int) (a1:AI) (a2:Int) (a3:Int) (a4:Bool) (a5:List Int) (a6:Int) (a7:Bool) (a8:List Int) (a9:Int):CC (small_Cos_1 a0 a1 a2 a3 a4 a5 a6 a7 a8 a9) Tryz.prog 203 [(.int .i64 a0),(.agg (kI.enc a1)),(.ptr 0 0),(.ptr 2 0)] [(.live 29 [(.ptr 1 0)]),(.live 54 [(.int .i64 a2),(.int .i64 a3)]),(.live 37 [(.bool a4),(slK (kInt .u32) a5),(.int .i64 a6),(.bool a7),(slK (kInt .u32) a8),(.int .i64 a9)])] (fun r=>(.agg (kI.enc (⟨⟨(((r.1).Lo).M),((r.1).Lo).E⟩,⟨(((r.1).Hi).M),((r.1).Hi).E⟩⟩:AI)))) (fun r=>[(.live 29 [(.ptr 1 0)]),(.live 54 [(.int .i64 r.2),(.int .i64 a3)]),(.live 37 [(.bool a4),(slK (kInt .u32) a5),(.int .i64 a6),(.bool a7),(slK (kInt .u32) a8),(.int .i64 a9)])]):=cc func203 (by kernel_rfl) rfl fun E=>by
 unfold small_Cos_1
 refine .g 17 rfl<|.bind fun x2 h1=>.st rfl (cl (CC.h h1) [1] [] [true] rfl (.p rfl<|.a kI<|.a kI<|.i<|.nil) (.p rfl (.i<|.i<|.nil) .nil) fnil (.cons (.v (.i<|.i<|.nil)) .nil) (ren_agg (K:=kI) _) (.turned .nil) rfl) rfl<|.g 4 rfl<|.fi rfl rfl
instance small_plain_1_b404_i (a0:Int) (a1:AI) (a2:Int) (a3:Int) (a4:Bool) (a5:List Int) (a6:Int) (a7:Bool) (a8:List Int) (a9:Int):CC (small_plain_1_b404 a0 a1 a2 a3 a4 a5 a6 a7 a8 a9) Tryz.prog 239 [(.int .i64 a0),(.agg (kI.enc a1)),(.ptr 0 0)] [(.live 191 [(.fn 203 [] [(.ptr 1 0),(.ptr 3 0)])]),(.live 29 [(.ptr 2 0)]),(.live 54 [(.int .i64 a2),(.int .i64 a3)]),(.live 37 [(.bool a4),(slK (kInt .u32) a5),(.int .i64 a6),(.bool a7),(slK (kInt .u32) a8),(.int .i64 a9)])] (fun r=>(.tup [(.agg (kI.enc (⟨⟨(((r.1).Lo).M),((r.1).Lo).E⟩,⟨(((r.1).Hi).M),((r.1).Hi).E⟩⟩:AI))),(.agg (kI.enc (⟨⟨(((r.2.1).Lo).M),((r.2.1).Lo).E⟩,⟨(((r.2.1).Hi).M),((r.2.1).Hi).E⟩⟩:AI)))])) (fun r=>[(.live 191 [(.fn 203 [] [(.ptr 1 0),(.ptr 3 0)])]),(.live 29 [(.ptr 2 0)]),(.live 54 [(.int .i64 r.2.2),(.int .i64 a3)]),(.live 37 [(.bool a4),(slK (kInt .u32) a5),(.int .i64 a6),(.bool a7),(slK (kInt .u32) a8),(.int .i64 a9)])]):=cc func239 (by kernel_rfl) rfl fun E=>by
 unfold small_plain_1_b404
 refine .g 12 rfl<|.bind fun x2 h1=>.st rfl (cl (CC.h h1) [1,2,3] [] [false,true,false] rfl (.i<|.a kI<|.p rfl<|.p rfl<|.nil) (.p rfl (.p rfl<|.nil) (.p rfl (.i<|.i<|.nil) (.p rfl (.b<|.l<|.i<|.b<|.l<|.i<|.nil) .nil))) fnil (.cons (.v (.p rfl<|.nil)) (.cons (.v (.i<|.i<|.nil)) (.cons (.v (.b<|.l<|.i<|.b<|.l<|.i<|.nil)) .nil))) (ren_agg (K:=kI) _) (.kept rfl (.turned (.kept rfl .nil))) rfl) rfl<|.g 9 rfl<|.dn (by kernel_rfl)<|.g 2 rfl<|.fi rfl rfl
instance small_series_7c7a_i (a0:AI) (a1:Int) (a2:Int) (a3:Bool) (a4:List Int) (a5:Int) (a6:Bool) (a7:List Int) (a8:Int):CC (small_series_7c7a a0 a1 a2 a3 a4 a5 a6 a7 a8) Tryz.prog 197 [(.ptr 0 0),(.agg (kI.enc a0)),(.fn 239 [] [(.ptr 1 0)])] [(.live 54 [(.int .i64 a1),(.int .i64 a2)]),(.live 191 [(.fn 203 [] [(.ptr 2 0),(.ptr 3 0)])]),(.live 29 [(.ptr 0 0)]),(.live 37 [(.bool a3),(slK (kInt .u32) a4),(.int .i64 a5),(.bool a6),(slK (kInt .u32) a7),(.int .i64 a8)])] (fun r=>(.agg (kI.enc (⟨⟨(((r.1).Lo).M),((r.1).Lo).E⟩,⟨(((r.1).Hi).M),((r.1).Hi).E⟩⟩:AI)))) (fun r=>[(.live 54 [(.int .i64 r.2),(.int .i64 a2)]),(.live 191 [(.fn 203 [] [(.ptr 2 0),(.ptr 3 0)])]),(.live 29 [(.ptr 0 0)]),(.live 37 [(.bool a3),(slK (kInt .u32) a4),(.int .i64 a5),(.bool a6),(slK (kInt .u32) a7),(.int .i64 a8)])]):=cc func197 (by kernel_rfl) rfl fun E=>by
 unfold small_series_7c7a
 refine .g 14 rfl<|.dn (by kernel_rfl)<|.g 5 rfl<|.bind fun x93 h1=>.st rfl (cl (CC.h h1) [0] [] [false] rfl (.p rfl<|.nil) (.p rfl (.i<|.i<|.nil) .nil) fnil (.cons (.v (.i<|.i<|.nil)) .nil) (.int _ _) (.kept rfl .nil) rfl) rfl<|.p0 rfl rfl fun x94 _=>.g 3 rfl<|?_
 refine .cut (fun x:Int × Bool × (List Int) × Int × Bool × (List Int) × Int=>(small_series_7c7a_j1 a2 x.1 x.2.1 x.2.2.1 x.2.2.2.1 x.2.2.2.2.1 x.2.2.2.2.2.1 x.2.2.2.2.2.2,[eP 0 0,eP 6 5,eP 7 6],[(0,(.live 54 [(.int .i64 x.1),(.int .i64 a2)])),(1,(.live 191 [(.fn 203 [] [(.ptr 2 0),(.ptr 3 0)])])),(2,(.live 29 [(.ptr 0 0)])),(3,(.live 37 [(.bool a3),(slK (kInt .u32) a4),(.int .i64 a5),(.bool a6),(slK (kInt .u32) a7),(.int .i64 a8)])),(5,(.live 37 [(.bool false),(slK (kInt .u32) []),(.int .i64 0),(.bool false),(slK (kInt .u32) []),(.int .i64 0)])),(6,(.live 37 [(.bool x.2.1),(slK (kInt .u32) x.2.2.1),(.int .i64 x.2.2.2.1),(.bool x.2.2.2.2.1),(slK (kInt .u32) x.2.2.2.2.2.1),(.int .i64 x.2.2.2.2.2.2)]))])) ?_ ?_
 ·rintro ⟨y135,y136,y137,y138,y139,y140,y141⟩
  dsimp only [small_series_7c7a_j1]
  refine .g 6 rfl<|.bind fun x142 h21=>.st rfl (cl (CC.h h21) [0] [] [false] rfl (.p rfl<|.nil) (.p rfl (.i<|.i<|.nil) .nil) fnil (.cons (.v (.i<|.i<|.nil)) .nil) (.int _ _) (.kept rfl .nil) rfl) rfl<|.g 1 rfl<|.p0 rfl rfl fun x143 _=>.bind fun x144 h23=>.st rfl (cl (CC.h h23) [0] [] [true] rfl (.p rfl<|.a kI<|.a kD<|.nil) (.p rfl (.i<|.i<|.nil) .nil) fnil (.cons (.v (.i<|.i<|.nil)) .nil) (ren_agg (K:=kI) _) (.turned .nil) rfl) rfl<|.g 1 rfl<|.dn (by kernel_rfl)<|.g 2 rfl<|.fi rfl rfl
 ·intro h24
  refine .g 1 rfl<|?_
  refine .lp (fun n (x:Int × Int × Bool × (List Int) × Int × Bool × (List Int) × Int × Bool × (List Int) × Int × Bool × (List Int) × Int)=>small_series_7c7a_l2 x94 a2 a3 a4 a5 a6 a7 a8 n x.1 x.2.1 x.2.2.1 x.2.2.2.1 x.2.2.2.2.1 x.2.2.2.2.2.1 x.2.2.2.2.2.2.1 x.2.2.2.2.2.2.2.1 x.2.2.2.2.2.2.2.2.1 x.2.2.2.2.2.2.2.2.2.1 x.2.2.2.2.2.2.2.2.2.2.1 x.2.2.2.2.2.2.2.2.2.2.2.1 x.2.2.2.2.2.2.2.2.2.2.2.2.1 x.2.2.2.2.2.2.2.2.2.2.2.2.2) (fun x=>([eP 0 0,(2,some (.fn 239 [] [(.ptr 1 0)])),eP 6 5,eP 7 6,eP 8 7,eI 15 x94,eI 16 x.1],[(0,(.live 54 [(.int .i64 x.2.1),(.int .i64 a2)])),(1,(.live 191 [(.fn 203 [] [(.ptr 2 0),(.ptr 3 0)])])),(2,(.live 29 [(.ptr 0 0)])),(3,(.live 37 [(.bool a3),(slK (kInt .u32) a4),(.int .i64 a5),(.bool a6),(slK (kInt .u32) a7),(.int .i64 a8)])),(5,(.live 37 [(.bool false),(slK (kInt .u32) []),(.int .i64 0),(.bool false),(slK (kInt .u32) []),(.int .i64 0)])),(6,(.live 37 [(.bool x.2.2.1),(slK (kInt .u32) x.2.2.2.1),(.int .i64 x.2.2.2.2.1),(.bool x.2.2.2.2.2.1),(slK (kInt .u32) x.2.2.2.2.2.2.1),(.int .i64 x.2.2.2.2.2.2.2.1)])),(7,(.live 37 [(.bool x.2.2.2.2.2.2.2.2.1),(slK (kInt .u32) x.2.2.2.2.2.2.2.2.2.1),(.int .i64 x.2.2.2.2.2.2.2.2.2.2.1),(.bool x.2.2.2.2.2.2.2.2.2.2.2.1),(slK (kInt .u32) x.2.2.2.2.2.2.2.2.2.2.2.2.1),(.int .i64 x.2.2.2.2.2.2.2.2.2.2.2.2.2)]))])) (0,a1,a0.Lo.M.Neg,a0.Lo.M.Mag,a0.Lo.E,a0.Hi.M.Neg,a0.Hi.M.Mag,a0.Hi.E,a0.Lo.M.Neg,a0.Lo.M.Mag,a0.Lo.E,a0.Hi.M.Neg,a0.Hi.M.Mag,a0.Hi.E) [(0,0),(1,1),(2,2),(3,3),(5,5),(6,6),(7,7)] rfl ?_
  rintro n2 ⟨y167,y168,y169,y170,y171,y172,y173,y174,y175,y176,y177,y178,y179,y180⟩
  try dsimp only
  rw [small_series_7c7a_l2]
  refine .g 6 rfl<|?_
  refine .cd rfl (fun _ _=>?_) fun _ _=>?_
  ·refine .g 21 rfl<|.bind fun x183 h41=>.st rfl (cl (CC.h h41) [1,2,0,3] [] [false,false,true,false] rfl (.i<|.a kI<|.p rfl<|.nil) (.p rfl (.cons (ren_fnL _ .nil (.p rfl<|.p rfl<|.nil))<|.nil) (.p rfl (.p rfl<|.nil) (.p rfl (.i<|.i<|.nil) (.p rfl (.b<|.l<|.i<|.b<|.l<|.i<|.nil) .nil)))) fnil (.cons (.v (.cons (ren_fnL _ .nil (.p rfl<|.p rfl<|.nil))<|.nil)) (.cons (.v (.p rfl<|.nil)) (.cons (.v (.i<|.i<|.nil)) (.cons (.v (.b<|.l<|.i<|.b<|.l<|.i<|.nil)) .nil)))) (ren_tupL (.a kI<|.a kI<|.nil)) (.kept rfl (.kept rfl (.turned (.kept rfl .nil)))) rfl) rfl<|.g 11 rfl<|.bind fun x184 h42=>.st rfl (cl (CC.h h42) [0] [] [true] rfl (.p rfl<|.a kI<|.a kI<|.nil) (.p rfl (.i<|.i<|.nil) .nil) fnil (.cons (.v (.i<|.i<|.nil)) .nil) (ren_agg (K:=kI) _) (.turned .nil) rfl) rfl<|.g 8 rfl<|.ag ((IntKind.i64.wrap (y167+1)),x184.2,(((x184.1).Lo).M).Neg,(((x184.1).Lo).M).Mag,((x184.1).Lo).E,(((x184.1).Hi).M).Neg,(((x184.1).Hi).M).Mag,((x184.1).Hi).E,(((x183.1).Lo).M).Neg,(((x183.1).Lo).M).Mag,((x183.1).Lo).E,(((x183.1).Hi).M).Neg,(((x183.1).Hi).M).Mag,((x183.1).Hi).E) [(0,0),(1,1),(2,2),(3,3),(5,5),(6,6),(7,7)] rfl
  ·refine .g 4 rfl<|.jw (h24 (y168,y169,y170,y171,y172,y173,y174)) [(0,0),(1,1),(2,2),(3,3),(5,5),(6,6)] rfl
instance small_plain_fc4a_i (a0:AI) (a1:Int) (a2:Int) (a3:Bool) (a4:List Int) (a5:Int) (a6:Bool) (a7:List Int) (a8:Int):CC (small_plain_fc4a a0 a1 a2 a3 a4 a5 a6 a7 a8) Tryz.prog 200 [(.ptr 0 0),(.agg (kI.enc a0)),(.fn 203 [] [(.ptr 1 0),(.ptr 2 0)])] [(.live 54 [(.int .i64 a1),(.int .i64 a2)]),(.live 29 [(.ptr 0 0)]),(.live 37 [(.bool a3),(slK (kInt .u32) a4),(.int .i64 a5),(.bool a6),(slK (kInt .u32) a7),(.int .i64 a8)])] (fun r=>(.agg (kI.enc (⟨⟨(((r.1).Lo).M),((r.1).Lo).E⟩,⟨(((r.1).Hi).M),((r.1).Hi).E⟩⟩:AI)))) (fun r=>[(.live 54 [(.int .i64 r.2),(.int .i64 a2)]),(.live 29 [(.ptr 0 0)]),(.live 37 [(.bool a3),(slK (kInt .u32) a4),(.int .i64 a5),(.bool a6),(slK (kInt .u32) a7),(.int .i64 a8)])]):=cc func200 (by kernel_rfl) rfl fun E=>by
 unfold small_plain_fc4a
 refine .g 12 rfl<|.bind fun x2 h1=>.st rfl (cl (CC.h h1) [0,4,1,2] [] [true,false,false,false] rfl (.p rfl<|.a kI<|.cons (ren_fnL _ .nil (.p rfl<|.nil))<|.nil) (.p rfl (.i<|.i<|.nil) (.p rfl (.cons (ren_fnL _ .nil (.p rfl<|.p rfl<|.nil))<|.nil) (.p rfl (.p rfl<|.nil) (.p rfl (.b<|.l<|.i<|.b<|.l<|.i<|.nil) .nil)))) fnil (.cons (.v (.i<|.i<|.nil)) (.cons (.v (.cons (ren_fnL _ .nil (.p rfl<|.p rfl<|.nil))<|.nil)) (.cons (.v (.p rfl<|.nil)) (.cons (.v (.b<|.l<|.i<|.b<|.l<|.i<|.nil)) .nil)))) (ren_agg (K:=kI) _) (.turned (.kept rfl (.kept rfl (.kept rfl .nil)))) rfl) rfl<|.g 4 rfl<|.fi rfl rfl
instance small_Cos_i (a0:AI) (a1:Int) (a2:Int):CC (small_Cos a0 a1 a2) Tryz.prog 134 [(.ptr 0 0),(.agg (kI.enc a0))] [(.live 54 [(.int .i64 a1),(.int .i64 a2)])] (fun r=>(.agg (kI.enc (⟨⟨(((r.1).Lo).M),((r.1).Lo).E⟩,⟨(((r.1).Hi).M),((r.1).Hi).E⟩⟩:AI)))) (fun r=>[(.live 54 [(.int .i64 r.2),(.int .i64 a2)])]):=cc func134 (by kernel_rfl) rfl fun E=>by
 unfold small_Cos
 refine .g 12 rfl<|.bind fun x5 h1=>.st rfl (cl (CC.h h1) [0] [] [true] rfl (.p rfl<|.a kI<|.i<|.nil) (.p rfl (.i<|.i<|.nil) .nil) fnil (.cons (.v (.i<|.i<|.nil)) .nil) (.bool _) (.turned .nil) rfl) rfl<|.g 3 rfl<|?_
 refine .cd rfl (fun _ _=>?_) fun _ _=>?_
 ·refine .g 8 rfl<|.fi rfl rfl
 ·refine .g 7 rfl<|.bind fun x6 h4=>.st rfl (cl (CC.h h4) [0] [] [true] rfl (.p rfl<|.a kI<|.a kI<|.nil) (.p rfl (.i<|.i<|.nil) .nil) fnil (.cons (.v (.i<|.i<|.nil)) .nil) (ren_agg (K:=kI) _) (.turned .nil) rfl) rfl<|.g 8 rfl<|.bind fun x7 h5=>.st rfl (cl (CC.h h5) [0] [] [true] rfl (.p rfl<|.i<|.nil) (.p rfl (.i<|.i<|.nil) .nil) fnil (.cons (.v (.i<|.i<|.nil)) .nil) (ren_agg (K:=kI) _) (.turned .nil) rfl) rfl<|.g 1 rfl<|.bind fun x8 h6=>.st rfl (cl (CC.h h6) [0,1,4] [] [true,false,false] rfl (.p rfl<|.a kI<|.cons (ren_fnL _ .nil (.p rfl<|.p rfl<|.nil))<|.nil) (.p rfl (.i<|.i<|.nil) (.p rfl (.p rfl<|.nil) (.p rfl (.b<|.l<|.i<|.b<|.l<|.i<|.nil) .nil))) fnil (.cons (.v (.i<|.i<|.nil)) (.cons (.v (.p rfl<|.nil)) (.cons (.v (.b<|.l<|.i<|.b<|.l<|.i<|.nil)) .nil))) (ren_agg (K:=kI) _) (.turned (.kept rfl (.kept rfl .nil))) rfl) rfl<|.g 1 rfl<|.dn (by kernel_rfl)<|.g 2 rfl<|.fi rfl rfl
instance trig_quarter_i (a0:AD) (a1:Int) (a2:Int):PC (trig_quarter a0 a1 a2) Tryz.prog 70 [(.agg (kD.enc a0)),(.int .i64 a1),(.int .i64 a2)] (fun r=>(.tup [(.agg (kI.enc (⟨⟨(((r.1).Lo).M),((r.1).Lo).E⟩,⟨(((r.1).Hi).M),((r.1).Hi).E⟩⟩:AI))),(.int .i64 r.2)])):=pc func70 (by kernel_rfl) rfl fun E=>by
 unfold trig_quarter
 refine .g 11 rfl<|.p0 rfl rfl fun x27 _=>.g 17 rfl<|?_
 refine .cd rfl (fun _ _=>?_) fun _ _=>?_
 ·refine .g 10 rfl<|.fi rfl rfl
 ·refine .g 6 rfl<|.bind fun x28 h4=>?_
  rcases x28 with x29 | x30
  ·dsimp only
   refine .st rfl (cl (iv_New_k_0 h4) [] [3] [true] rfl (.i<|.nil) .nil (fresh_cons rfl fnil) (.cons .dead .nil) (ren_tupL (.cons .nilptr<|.i<|.nil)) (.turned .nil) rfl) rfl<|.g 18 rfl<|.sv (.sl [[(.fn 133 [] [])],[(.fn 134 [] [])]]) [] rfl (snd_buildSlice _ _ _ 1 _ _ [(0,(.fn 133 [] [])),(1,(.fn 134 [] []))] [[(.fn 133 [] [])],[(.fn 134 [] [])]] rfl underlying188 ze80 si80 rfl rfl rfl (by decide) (by decide) (by decide) rfl rfl (by intro e he; simp at he; rcases he with rfl | rfl<;>rfl) rfl) rfl<|.bind fun x31 h5=>?_
   rcases x31 with x32 | x33
   ·dsimp only
    refine .st rfl (cl (trig_one_func_c_iv_Calc_y_api_Iv_api_Iv_69d9_k_0 h5) [] [] [] rfl (.i<|.cons (ren_slL (.cons (.cons (ren_fnL _ .nil .nil)<|.nil) (.cons (.cons (ren_fnL _ .nil .nil)<|.nil) .nil)))<|.nil) .nil fnil .nil (ren_fnL _ .nil .nil) .nil rfl) rfl<|.g 2 rfl<|.no
   ·dsimp only
    refine .st rfl (cl (trig_one_func_c_iv_Calc_y_api_Iv_api_Iv_69d9_k_1 h5) [] [] [] rfl (.i<|.cons (ren_slL (.cons (.cons (ren_fnL _ .nil .nil)<|.nil) (.cons (.cons (ren_fnL _ .nil .nil)<|.nil) .nil)))<|.nil) .nil fnil .nil (ren_fnL _ .nil .nil) .nil rfl) rfl<|.g 2 rfl<|.no
  ·dsimp only
   refine .st rfl (cl (iv_New_k_1 h4) [] [3] [true] rfl (.i<|.nil) .nil (fresh_cons rfl fnil) (.cons (.v (.i<|.i<|.nil)) .nil) (ren_tupL (.p rfl<|.i<|.nil)) (.turned .nil) rfl) rfl<|.g 18 rfl<|.sv (.sl [[(.fn 133 [] [])],[(.fn 134 [] [])]]) [] rfl (snd_buildSlice _ _ _ 1 _ _ [(0,(.fn 133 [] [])),(1,(.fn 134 [] []))] [[(.fn 133 [] [])],[(.fn 134 [] [])]] rfl underlying188 ze80 si80 rfl rfl rfl (by decide) (by decide) (by decide) rfl rfl (by intro e he; simp at he; rcases he with rfl | rfl<;>rfl) rfl) rfl<|.bind fun x34 h6=>?_
   rcases x34 with x35 | x36
   ·dsimp only
    refine .st rfl (cl (trig_one_func_c_iv_Calc_y_api_Iv_api_Iv_69d9_k_0 h6) [] [] [] rfl (.i<|.cons (ren_slL (.cons (.cons (ren_fnL _ .nil .nil)<|.nil) (.cons (.cons (ren_fnL _ .nil .nil)<|.nil) .nil)))<|.nil) .nil fnil .nil (ren_fnL _ .nil .nil) .nil rfl) rfl<|.g 2 rfl<|.bind fun x37 h7=>.st rfl (cl (CC.h h7) [3] [] [true] rfl (.p rfl<|.a kI<|.nil) (.p rfl (.i<|.i<|.nil) .nil) fnil (.cons (.v (.i<|.i<|.nil)) .nil) (ren_agg (K:=kI) _) (.turned .nil) rfl) rfl<|.g 2 rfl<|.dn (by kernel_rfl)<|.g 8 rfl<|.sv (.sl [[(.fn 136 [] [])],[(.fn 20 [(.ptr 3 0)] [])]]) [] rfl (snd_buildSlice _ _ _ 1 _ _ [(0,(.fn 136 [] [])),(1,(.fn 20 [(.ptr 3 0)] []))] [[(.fn 136 [] [])],[(.fn 20 [(.ptr 3 0)] [])]] rfl underlying192 ze44 si44 rfl rfl rfl (by decide) (by decide) (by decide) rfl rfl (by intro e he; simp at he; rcases he with rfl | rfl<;>rfl) rfl) rfl<|.bind fun x38 h8=>?_
    rcases x38 with x39 | x40
    ·dsimp only
     refine .st rfl (cl (trig_one_func_a_api_Iv_api_Iv_4a04_k_0 h8) [3] [] [false] rfl (.i<|.cons (ren_slL (.cons (.cons (ren_fnL _ .nil .nil)<|.nil) (.cons (.cons (ren_fnL _ (.p rfl<|.nil) .nil)<|.nil) .nil)))<|.nil) (.p rfl (.i<|.i<|.nil) .nil) fnil (.cons (.v (.i<|.i<|.nil)) .nil) (ren_fnL _ .nil .nil) (.kept rfl .nil) rfl) rfl<|.g 1 rfl<|.p0 rfl rfl fun x41 _=>.g 1 rfl<|.bind fun x42 h10=>.st rfl (cl (CC.h h10) [3] [] [false] rfl (.p rfl<|.a kI<|.i<|.nil) (.p rfl (.i<|.i<|.nil) .nil) fnil (.cons (.v (.i<|.i<|.nil)) .nil) (ren_tupL (.a kI<|.i<|.nil)) (.kept rfl .nil) rfl) rfl<|.g 4 rfl<|.dn (by kernel_rfl)<|.g 2 rfl<|.fi rfl rfl
    ·dsimp only
     refine .st rfl (cl (trig_one_func_a_api_Iv_api_Iv_4a04_k_1 h8) [3] [] [false] rfl (.i<|.cons (ren_slL (.cons (.cons (ren_fnL _ .nil .nil)<|.nil) (.cons (.cons (ren_fnL _ (.p rfl<|.nil) .nil)<|.nil) .nil)))<|.nil) (.p rfl (.i<|.i<|.nil) .nil) fnil (.cons (.v (.i<|.i<|.nil)) .nil) (ren_fnL _ (.p rfl<|.nil) .nil) (.kept rfl .nil) rfl) rfl<|.g 1 rfl<|.bind fun x43 h11=>.st rfl (cl (CC.h h11) [3] [] [true] rfl (.p rfl<|.a kI<|.nil) (.p rfl (.i<|.i<|.nil) .nil) fnil (.cons (.v (.i<|.i<|.nil)) .nil) (ren_agg (K:=kI) _) (.turned .nil) rfl) rfl<|.g 1 rfl<|.bind fun x44 h12=>.st rfl (cl (CC.h h12) [3] [] [false] rfl (.p rfl<|.a kI<|.i<|.nil) (.p rfl (.i<|.i<|.nil) .nil) fnil (.cons (.v (.i<|.i<|.nil)) .nil) (ren_tupL (.a kI<|.i<|.nil)) (.kept rfl .nil) rfl) rfl<|.g 4 rfl<|.dn (by kernel_rfl)<|.g 2 rfl<|.fi rfl rfl
   ·dsimp only
    refine .st rfl (cl (trig_one_func_c_iv_Calc_y_api_Iv_api_Iv_69d9_k_1 h6) [] [] [] rfl (.i<|.cons (ren_slL (.cons (.cons (ren_fnL _ .nil .nil)<|.nil) (.cons (.cons (ren_fnL _ .nil .nil)<|.nil) .nil)))<|.nil) .nil fnil .nil (ren_fnL _ .nil .nil) .nil rfl) rfl<|.g 2 rfl<|.bind fun x45 h13=>.st rfl (cl (CC.h h13) [3] [] [true] rfl (.p rfl<|.a kI<|.nil) (.p rfl (.i<|.i<|.nil) .nil) fnil (.cons (.v (.i<|.i<|.nil)) .nil) (ren_agg (K:=kI) _) (.turned .nil) rfl) rfl<|.g 2 rfl<|.dn (by kernel_rfl)<|.g 8 rfl<|.sv (.sl [[(.fn 136 [] [])],[(.fn 20 [(.ptr 3 0)] [])]]) [] rfl (snd_buildSlice _ _ _ 1 _ _ [(0,(.fn 136 [] [])),(1,(.fn 20 [(.ptr 3 0)] []))] [[(.fn 136 [] [])],[(.fn 20 [(.ptr 3 0)] [])]] rfl underlying192 ze44 si44 rfl rfl rfl (by decide) (by decide) (by decide) rfl rfl (by intro e he; simp at he; rcases he with rfl | rfl<;>rfl) rfl) rfl<|.bind fun x46 h14=>?_
    rcases x46 with x47 | x48
    ·dsimp only
     refine .st rfl (cl (trig_one_func_a_api_Iv_api_Iv_4a04_k_0 h14) [3] [] [false] rfl (.i<|.cons (ren_slL (.cons (.cons (ren_fnL _ .nil .nil)<|.nil) (.cons (.cons (ren_fnL _ (.p rfl<|.nil) .nil)<|.nil) .nil)))<|.nil) (.p rfl (.i<|.i<|.nil) .nil) fnil (.cons (.v (.i<|.i<|.nil)) .nil) (ren_fnL _ .nil .nil) (.kept rfl .nil) rfl) rfl<|.g 1 rfl<|.p0 rfl rfl fun x49 _=>.g 1 rfl<|.bind fun x50 h16=>.st rfl (cl (CC.h h16) [3] [] [false] rfl (.p rfl<|.a kI<|.i<|.nil) (.p rfl (.i<|.i<|.nil) .nil) fnil (.cons (.v (.i<|.i<|.nil)) .nil) (ren_tupL (.a kI<|.i<|.nil)) (.kept rfl .nil) rfl) rfl<|.g 4 rfl<|.dn (by kernel_rfl)<|.g 2 rfl<|.fi rfl rfl
    ·dsimp only
     refine .st rfl (cl (trig_one_func_a_api_Iv_api_Iv_4a04_k_1 h14) [3] [] [false] rfl (.i<|.cons (ren_slL (.cons (.cons (ren_fnL _ .nil .nil)<|.nil) (.cons (.cons (ren_fnL _ (.p rfl<|.nil) .nil)<|.nil) .nil)))<|.nil) (.p rfl (.i<|.i<|.nil) .nil) fnil (.cons (.v (.i<|.i<|.nil)) .nil) (ren_fnL _ (.p rfl<|.nil) .nil) (.kept rfl .nil) rfl) rfl<|.g 1 rfl<|.bind fun x51 h17=>.st rfl (cl (CC.h h17) [3] [] [true] rfl (.p rfl<|.a kI<|.nil) (.p rfl (.i<|.i<|.nil) .nil) fnil (.cons (.v (.i<|.i<|.nil)) .nil) (ren_agg (K:=kI) _) (.turned .nil) rfl) rfl<|.g 1 rfl<|.bind fun x52 h18=>.st rfl (cl (CC.h h18) [3] [] [false] rfl (.p rfl<|.a kI<|.i<|.nil) (.p rfl (.i<|.i<|.nil) .nil) fnil (.cons (.v (.i<|.i<|.nil)) .nil) (ren_tupL (.a kI<|.i<|.nil)) (.kept rfl .nil) rfl) rfl<|.g 4 rfl<|.dn (by kernel_rfl)<|.g 2 rfl<|.fi rfl rfl
instance trig_Sin_i (a0:AD) (a1:Int):PC (trig_Sin a0 a1) Tryz.prog 15 [(.agg (kD.enc a0)),(.int .i64 a1)] (fun r=>(.tup [(.agg (kI.enc (⟨⟨(((r.1).Lo).M),((r.1).Lo).E⟩,⟨(((r.1).Hi).M),((r.1).Hi).E⟩⟩:AI))),(.int .i64 r.2)])):=pc func15 (by kernel_rfl) rfl fun E=>by
 unfold trig_Sin
 refine .g 11 rfl<|.p0 rfl rfl fun x2 _=>.g 7 rfl<|.fi rfl rfl
instance trig_Cos_i (a0:AD) (a1:Int):PC (trig_Cos a0 a1) Tryz.prog 16 [(.agg (kD.enc a0)),(.int .i64 a1)] (fun r=>(.tup [(.agg (kI.enc (⟨⟨(((r.1).Lo).M),((r.1).Lo).E⟩,⟨(((r.1).Hi).M),((r.1).Hi).E⟩⟩:AI))),(.int .i64 r.2)])):=pc func16 (by kernel_rfl) rfl fun E=>by
 unfold trig_Cos
 refine .g 11 rfl<|.p0 rfl rfl fun x2 _=>.g 7 rfl<|.fi rfl rfl
instance r04_Right_i (a0:ApiInt):PC (r04_Right a0) Tryz.prog 188 [(.agg (kN.enc a0))] (fun r=>(.bool r)):=pc func188 (by kernel_rfl) rfl fun E=>by
 unfold r04_Right
 refine .g 10 rfl<|.ln rfl rfl<|.g 4 rfl<|?_
 refine .cut (fun x:Bool=>(r04_Right_j1 x,[eB 2 x],[])) ?_ ?_
 ·rintro y2
  dsimp only [r04_Right_j1]
  refine .g 2 rfl<|.fi rfl rfl
 ·intro h7
  refine .g 4 rfl<|?_
  refine .gd 9 rfl (fun _=>?_) fun _=>?_
  ·refine .g 5 rfl<|?_
   refine .gd 14 rfl (fun _=>?_) fun _=>?_
   ·refine .g 14 rfl<|.jw (h7 true) [] rfl
   ·refine .g 3 rfl<|?_
    refine .gd 17 rfl (fun _=>?_) fun _=>?_
    ·refine .g 4 rfl<|.ix rfl rfl<|.g 6 rfl<|.jw (h7 ((a0.Mag.getD ((IntKind.i64.wrap ((a0.Mag.length:Int)-1)).toNat) (kInt .u32).z) != 0)) [] rfl
    ·refine .g 11 rfl<|.jw (h7 false) [] rfl
  ·refine .g 8 rfl<|?_
   refine .gd 17 rfl (fun _=>?_) fun _=>?_
   ·refine .g 4 rfl<|.ix rfl rfl<|.g 6 rfl<|.jw (h7 ((a0.Mag.getD ((IntKind.i64.wrap ((a0.Mag.length:Int)-1)).toNat) (kInt .u32).z) != 0)) [] rfl
   ·refine .g 11 rfl<|.jw (h7 false) [] rfl
instance r05_Right_i (a0:AD):PC (r05_Right a0) Tryz.prog 120 [(.agg (kD.enc a0))] (fun r=>(.bool r)):=pc func120 (by kernel_rfl) rfl fun E=>by
 unfold r05_Right
 refine .g 10 rfl<|.p0 rfl rfl fun x3 _=>.g 10 rfl<|?_
 refine .cd rfl (fun _ _=>?_) fun _ _=>?_
 ·refine .g 7 rfl<|.fi rfl rfl
 ·refine .g 8 rfl<|.ln rfl rfl<|.g 3 rfl<|?_
  refine .cd rfl (fun _ _=>?_) fun _ _=>?_
  ·refine .g 10 rfl<|.fi rfl rfl
  ·refine .g 3 rfl<|?_
   refine .cut (fun x:Bool=>(r05_Right_j1 x,[eB 2 x],[])) ?_ ?_
   ·rintro y4
    dsimp only [r05_Right_j1]
    refine .g 2 rfl<|.fi rfl rfl
   ·intro h9
    refine .g 4 rfl<|.ix rfl rfl<|.g 4 rfl<|?_
    refine .gd 24 rfl (fun _=>?_) fun _=>?_
    ·refine .g 5 rfl<|?_
     refine .gd 29 rfl (fun _=>?_) fun _=>?_
     ·refine .g 6 rfl<|.jw (h9 (decide (a0.E≤131072))) [] rfl
     ·refine .g 6 rfl<|.jw (h9 false) [] rfl
    ·refine .g 11 rfl<|.jw (h9 false) [] rfl
instance r01_Cmp_i (a0:List Int) (a1:List Int):PC (r01_Cmp a0 a1) Tryz.prog 217 [(slK (kInt .u32) a0),(slK (kInt .u32) a1)] (fun r=>(.int .i64 r)):=pc func217 (by kernel_rfl) rfl fun E=>by
 unfold r01_Cmp
 refine .g 9 rfl<|.ln rfl rfl<|.g 1 rfl<|.ln rfl rfl<|.g 5 rfl<|?_
 refine .cut (fun x:Unit=>(r01_Cmp_j1,[],[])) ?_ ?_
 ·rintro _
  dsimp only [r01_Cmp_j1]
  refine .g 7 rfl<|.fi rfl rfl
 ·intro h55
  refine .g 1 rfl<|?_
  refine .lp (fun n (x:Int)=>r01_Cmp_l2 a0 a1 n x) (fun x=>([eL 0 a0,eL 1 a1,eI 5 x],[])) (IntKind.i64.wrap ((mx (a0.length:Int) (a1.length:Int))-1)) [] rfl ?_
  rintro n2 y96
  try dsimp only
  rw [r01_Cmp_l2]
  refine .g 7 rfl<|?_
  refine .cd rfl (fun _ _=>?_) fun _ _=>?_
  ·refine .g 9 rfl<|.p0 rfl rfl fun x101 _=>.g 2 rfl<|.p0 rfl rfl fun x102 _=>.g 3 rfl<|?_
   refine .cd rfl (fun _ _=>?_) fun _ _=>?_
   ·refine .g 12 rfl<|.fi rfl rfl
   ·refine .g 6 rfl<|.p0 rfl rfl fun x103 _=>.g 2 rfl<|.p0 rfl rfl fun x104 _=>.g 3 rfl<|?_
    refine .cd rfl (fun _ _=>?_) fun _ _=>?_
    ·refine .g 11 rfl<|.fi rfl rfl
    ·refine .g 8 rfl<|.ag (IntKind.i64.wrap (y96-1)) [] rfl
  ·refine .g 4 rfl<|.jw (h55 ()) [] rfl
instance r04_Cmp_i (a0:ApiInt) (a1:ApiInt):PC (r04_Cmp a0 a1) Tryz.prog 189 [(.agg (kN.enc a0)),(.agg (kN.enc a1))] (fun r=>(.int .i64 r)):=pc func189 (by kernel_rfl) rfl fun E=>by
 unfold r04_Cmp
 refine .g 13 rfl<|.p0 rfl rfl fun x10 _=>.g 10 rfl<|.p0 rfl rfl fun x11 _=>.g 7 rfl<|?_
 refine .cut (fun x:Bool=>(r04_Cmp_j1 x10 x11 x,[eP 5 2,eP 6 3,eB 17 x],[(2,(.live 24 [(.bool ((x10).Neg)),(slK (kInt .u32) ((x10).Mag))])),(3,(.live 24 [(.bool ((x11).Neg)),(slK (kInt .u32) ((x11).Mag))]))])) ?_ ?_
 ·rintro y15
  dsimp only [r04_Cmp_j1]
  refine .g 1 rfl<|?_
  refine .cd rfl (fun _ _=>?_) fun _ _=>?_
  ·refine .g 8 rfl<|.fi rfl rfl
  ·refine .g 1 rfl<|?_
   refine .cut (fun x:Bool=>(r04_Cmp_j2 x10 x11 x,[eP 5 2,eP 6 3,eB 25 x],[(2,(.live 24 [(.bool ((x10).Neg)),(slK (kInt .u32) ((x10).Mag))])),(3,(.live 24 [(.bool ((x11).Neg)),(slK (kInt .u32) ((x11).Mag))]))])) ?_ ?_
   ·rintro y16
    dsimp only [r04_Cmp_j2]
    refine .g 1 rfl<|?_
    refine .cd rfl (fun _ _=>?_) fun _ _=>?_
    ·refine .g 8 rfl<|.fi rfl rfl
    ·refine .g 7 rfl<|?_
     refine .cd rfl (fun _ _=>?_) fun _ _=>?_
     ·refine .g 6 rfl<|.p0 rfl rfl fun x17 _=>.g 6 rfl<|.fi rfl rfl
     ·refine .g 9 rfl<|.p0 rfl rfl fun x18 _=>.g 4 rfl<|.fi rfl rfl
   ·intro h24
    refine .g 5 rfl<|?_
    refine .gd 29 rfl (fun _=>?_) fun _=>?_
    ·refine .g 5 rfl<|.jw (h24 (x11).Neg) [(2,2),(3,3)] rfl
    ·refine .g 5 rfl<|.jw (h24 false) [(2,2),(3,3)] rfl
 ·intro h26
  refine .g 4 rfl<|?_
  refine .gd 20 rfl (fun _=>?_) fun _=>?_
  ·refine .g 6 rfl<|.jw (h26 (!((x11).Neg))) [(2,2),(3,3)] rfl
  ·refine .g 6 rfl<|.jw (h26 false) [(2,2),(3,3)] rfl
instance r01_Bits_i (a0:List Int):PC (r01_Bits a0) Tryz.prog 156 [(slK (kInt .u32) a0)] (fun r=>(.int .i64 r)):=pc func156 (by kernel_rfl) rfl fun E=>by
 unfold r01_Bits
 refine .g 8 rfl<|.p0 rfl rfl fun x11 _=>.g 7 rfl<|.ln rfl rfl<|.g 3 rfl<|?_
 refine .cd rfl (fun _ _=>?_) fun _ _=>?_
 ·refine .g 7 rfl<|.fi rfl rfl
 ·refine .g 5 rfl<|.ln rfl rfl<|.g 10 rfl<|.ln rfl rfl<|.g 1 rfl<|.ix rfl rfl<|.g 4 rfl<|?_
  refine .cut (fun x:Int=>(r01_Bits_j1 x,[eI 4 x],[])) ?_ ?_
  ·rintro y16
   dsimp only [r01_Bits_j1]
   refine .g 8 rfl<|.fi rfl rfl
  ·intro h11
   refine .g 1 rfl<|?_
   refine .lp (fun n (x:Int × Int)=>r01_Bits_l2 n x.1 x.2) (fun x=>([eI 4 x.1,eW 5 x.2],[])) ((IntKind.i64.wrap (32*(IntKind.i64.wrap ((x11.length:Int)-1)))),(x11.getD ((IntKind.i64.wrap ((x11.length:Int)-1)).toNat) (kInt .u32).z)) [] rfl ?_
   rintro n2 ⟨y19,y20⟩
   try dsimp only
   rw [r01_Bits_l2]
   refine .g 7 rfl<|?_
   refine .cd rfl (fun _ _=>?_) fun _ _=>?_
   ·refine .g 16 rfl<|.ag ((IntKind.i64.wrap (y19+1)),(shrI .u32 y20 1)) [] rfl
   ·refine .g 4 rfl<|.jw (h11 y19) [] rfl
instance r05_size_i (a0:AD):PC (r05_size a0) Tryz.prog 190 [(.agg (kD.enc a0))] (fun r=>(.int .i64 r)):=pc func190 (by kernel_rfl) rfl fun E=>by
 unfold r05_size
 refine .g 13 rfl<|.p0 rfl rfl fun x2 _=>.g 2 rfl<|.dn (by kernel_rfl)<|.g 2 rfl<|.fi rfl rfl
instance r01_Shl_i (a0:List Int) (a1:Int):PC (r01_Shl a0 a1) Tryz.prog 216 [(slK (kInt .u32) a0),(.int .i64 a1)] (fun r=>(.tup [(slK (kInt .u32) r.1),(.bool r.2)])):=pc func216 (by kernel_rfl) rfl fun E=>by
 unfold r01_Shl
 refine .g 8 rfl<|?_
 refine .cut (fun x:Bool=>(r01_Shl_j1 a1 a0 x,[eL 0 a0,eI 1 a1,eB 15 x],[])) ?_ ?_
 ·rintro y17
  dsimp only [r01_Shl_j1]
  refine .g 1 rfl<|?_
  refine .cd rfl (fun _ _=>?_) fun _ _=>?_
  ·refine .g 8 rfl<|.fj rfl rfl (.tup (.cons AVle.nil (.cons (AVle.refl _) .nil)))
  ·refine .g 6 rfl<|.guard fun h4=>.sv (.row 0 (kInt .u32).sz 0 (((List.replicate ((IntKind.i64.wrap (a1.tdiv 32)).toNat) (kInt .u32).z)).length)) [(0,(rwK (kInt .u32) 134 (List.replicate ((IntKind.i64.wrap (a1.tdiv 32)).toNat) (kInt .u32).z)))] rfl (snd_makeK (kInt .u32) _ _ _ _ _ 0 _ _ _ rfl underlying22 ze134 sb134 (by decide) rfl rfl rfl rfl rfl h4) rfl<|.g 14 rfl<|?_
   refine .cut (fun x:Int × (List Int)=>(r01_Shl_j2 x.1 x.2,[(6,some (.row 0 (kInt .u32).sz 0 ((x.2).length))),eX 7 x.1],[(0,(rwK (kInt .u32) 134 x.2))])) ?_ ?_
   ·rintro ⟨y24,y25⟩
    dsimp only [r01_Shl_j2]
    refine .g 6 rfl<|.st rfl (bs (kInt .u32) [(IntKind.u32.wrap y24)] rfl rfl) rfl<|.guard fun h29=>.sv (.row 1 (kInt .u32).sz 0 (((y25++[(IntKind.u32.wrap y24)])).length)) [(1,(rwK (kInt .u32) 134 (y25++[(IntKind.u32.wrap y24)]))),(0,.dead)] rfl (snd_appendK (kInt .u32) _ _ _ _ _ 0 1 y25 [(IntKind.u32.wrap y24)] rfl underlying22 ze134 sb134 rfl rfl rfl rfl rfl rfl h29) rfl<|?_
    refine .weak ?_ (fun a w h=>Conc.freezeK (kInt .u32) h 46 1 0 (((y25++[(IntKind.u32.wrap y24)])).length) 134 (y25++[(IntKind.u32.wrap y24)]) rfl rfl (by omega))
    refine .weak ?_ (fun a w h=>take_all h)
    refine .p0 rfl rfl fun x26 _=>.g 5 rfl<|.fi rfl rfl
   ·intro h31
    refine .g 1 rfl<|?_
    refine .lp (fun n (x:Int × Int × (List Int))=>r01_Shl_l3 a0 a1 n x.1 x.2.1 x.2.2) (fun x=>([eL 0 a0,eI 1 a1,(6,some (.row 0 (kInt .u32).sz 0 ((x.2.2).length))),eX 7 x.1,eI 8 x.2.1],[(0,(rwK (kInt .u32) 134 x.2.2))])) (0,0,(List.replicate ((IntKind.i64.wrap (a1.tdiv 32)).toNat) (kInt .u32).z)) [(0,0)] rfl ?_
    rintro n3 ⟨y30,y31,y32⟩
    try dsimp only
    rw [r01_Shl_l3]
    refine .g 5 rfl<|.ln rfl rfl<|.g 3 rfl<|?_
    refine .cd rfl (fun _ _=>?_) fun _ _=>?_
    ·refine .g 8 rfl<|.ix rfl rfl<|.g 4 rfl<|.guard fun h54=>.st rfl (snd_shl _ _ _ _ _ _ _ _ rfl rfl rfl rfl rfl h54) rfl<|.g 10 rfl<|.st rfl (bs (kInt .u32) [(IntKind.u32.wrap (orI .u64 (shlI .u64 (IntKind.u64.wrap (a0.getD y31.toNat (kInt .u32).z)) (a1.tmod 32)) y30))] rfl rfl) rfl<|.guard fun h55=>.sv (.row 1 (kInt .u32).sz 0 (((y32++[(IntKind.u32.wrap (orI .u64 (shlI .u64 (IntKind.u64.wrap (a0.getD y31.toNat (kInt .u32).z)) (a1.tmod 32)) y30))])).length)) [(1,(rwK (kInt .u32) 134 (y32++[(IntKind.u32.wrap (orI .u64 (shlI .u64 (IntKind.u64.wrap (a0.getD y31.toNat (kInt .u32).z)) (a1.tmod 32)) y30))]))),(0,.dead)] rfl (snd_appendK (kInt .u32) _ _ _ _ _ 0 1 y32 [(IntKind.u32.wrap (orI .u64 (shlI .u64 (IntKind.u64.wrap (a0.getD y31.toNat (kInt .u32).z)) (a1.tmod 32)) y30))] rfl underlying22 ze134 sb134 rfl rfl rfl rfl rfl rfl h55) rfl<|.g 15 rfl<|.ag ((shrI .u64 (orI .u64 (shlI .u64 (IntKind.u64.wrap (a0.getD y31.toNat (kInt .u32).z)) (a1.tmod 32)) y30) 32),(IntKind.i64.wrap (y31+1)),(y32++[(IntKind.u32.wrap (orI .u64 (shlI .u64 (IntKind.u64.wrap (a0.getD y31.toNat (kInt .u32).z)) (a1.tmod 32)) y30))])) [(1,0)] rfl
    ·refine .g 4 rfl<|.jw (h31 (y30,y32)) [(0,0)] rfl
 ·intro h56
  refine .g 4 rfl<|?_
  refine .gd 12 rfl (fun _=>?_) fun _=>?_
  ·refine .g 4 rfl<|.jw (h56 true) [] rfl
  ·refine .g 4 rfl<|.jw (h56 (decide (a1>100000))) [] rfl
instance r05_up_i (a0:ApiInt) (a1:Int):PC (r05_up a0 a1) Tryz.prog 159 [(.agg (kN.enc a0)),(.int .i64 a1)] (fun r=>(.agg (kN.enc (r)))):=pc func159 (by kernel_rfl) rfl fun E=>by
 unfold r05_up
 refine .g 14 rfl<|?_
 refine .cut (fun x:(List Int)=>(r05_up_j1 a0 x,[eP 2 0,eP 4 1,eL 5 x],[(0,(.live 24 [(.bool a0.Neg),(slK (kInt .u32) a0.Mag)])),(1,(.live 24 [(.bool false),(slK (kInt .u32) [])]))])) ?_ ?_
 ·rintro y33
  dsimp only [r05_up_j1]
  refine .g 6 rfl<|.p0 rfl rfl fun x34 _=>.g 4 rfl<|.fi rfl rfl
 ·intro h14
  refine .g 1 rfl<|?_
  refine .lp (fun n (x:Int × (List Int))=>r05_up_l2 a0 n x.1 x.2) (fun x=>([eI 1 x.1,eP 2 0,eP 4 1,eL 5 x.2],[(0,(.live 24 [(.bool a0.Neg),(slK (kInt .u32) a0.Mag)])),(1,(.live 24 [(.bool false),(slK (kInt .u32) [])]))])) (a1,a0.Mag) [(0,0),(1,1)] rfl ?_
  rintro n2 ⟨y41,y42⟩
  try dsimp only
  rw [r05_up_l2]
  refine .g 7 rfl<|?_
  refine .cd rfl (fun _ _=>?_) fun _ _=>?_
  ·refine .g 14 rfl<|.p0 rfl rfl fun x44 _=>.g 13 rfl<|.ag ((IntKind.i64.wrap (y41-(mn y41 100000))),x44.1) [(0,0),(1,1)] rfl
  ·refine .g 4 rfl<|.jw (h14 y42) [(0,0),(1,1)] rfl
instance r05_lift_i (a0:AD) (a1:AD):PC (r05_lift a0 a1) Tryz.prog 191 [(.agg (kD.enc a0)),(.agg (kD.enc a1))] (fun r=>(.tup [(.agg (kN.enc (r.1))),(.agg (kN.enc (r.2.1))),(.int .i64 r.2.2)])):=pc func191 (by kernel_rfl) rfl fun E=>by
 unfold r05_lift
 refine .g 16 rfl<|.ln rfl rfl<|.g 4 rfl<|?_
 refine .cd rfl (fun _ _=>?_) fun _ _=>?_
 ·refine .g 10 rfl<|.dn (by kernel_rfl)<|.g 4 rfl<|.fi rfl rfl
 ·refine .g 5 rfl<|.ln rfl rfl<|.g 4 rfl<|?_
  refine .cd rfl (fun _ _=>?_) fun _ _=>?_
  ·refine .g 10 rfl<|.dn (by kernel_rfl)<|.g 4 rfl<|.fi rfl rfl
  ·refine .g 10 rfl<|?_
   refine .cd rfl (fun _ _=>?_) fun _ _=>?_
   ·refine .g 9 rfl<|.p0 rfl rfl fun x5 _=>.g 7 rfl<|.dn (by kernel_rfl)<|.g 4 rfl<|.fi rfl rfl
   ·refine .g 14 rfl<|.p0 rfl rfl fun x6 _=>.g 5 rfl<|.dn (by kernel_rfl)<|.g 2 rfl<|.fi rfl rfl
instance r05_Cmp_i (a0:AD) (a1:AD):PC (r05_Cmp a0 a1) Tryz.prog 121 [(.agg (kD.enc a0)),(.agg (kD.enc a1))] (fun r=>(.int .i64 r)):=pc func121 (by kernel_rfl) rfl fun E=>by
 unfold r05_Cmp
 refine .g 10 rfl<|.p0 rfl rfl fun x12 _=>.g 6 rfl<|.p0 rfl rfl fun x13 _=>.g 5 rfl<|?_
 refine .cut (fun x:Bool=>(r05_Cmp_j1 a0 a1 x,[eP 2 0,eP 3 1,eB 19 x],[(0,(.live 26 [(.bool a0.M.Neg),(slK (kInt .u32) a0.M.Mag),(.int .i64 a0.E)])),(1,(.live 26 [(.bool a1.M.Neg),(slK (kInt .u32) a1.M.Mag),(.int .i64 a1.E)]))])) ?_ ?_
 ·rintro y14
  dsimp only [r05_Cmp_j1]
  refine .g 1 rfl<|?_
  refine .cd rfl (fun _ _=>?_) fun _ _=>?_
  ·refine .g 7 rfl<|.fi rfl rfl
  ·refine .g 4 rfl<|?_
   refine .cut (fun x:Bool=>(r05_Cmp_j2 a0 a1 x,[eP 2 0,eP 3 1,eB 40 x],[(0,(.live 26 [(.bool a0.M.Neg),(slK (kInt .u32) a0.M.Mag),(.int .i64 a0.E)])),(1,(.live 26 [(.bool a1.M.Neg),(slK (kInt .u32) a1.M.Mag),(.int .i64 a1.E)]))])) ?_ ?_
   ·rintro y15
    dsimp only [r05_Cmp_j2]
    refine .g 1 rfl<|?_
    refine .cd rfl (fun _ _=>?_) fun _ _=>?_
    ·refine .g 6 rfl<|.p0 rfl rfl fun x16 _=>.g 5 rfl<|.fi rfl rfl
    ·refine .g 6 rfl<|.p0 rfl rfl fun x17 _=>.g 1 rfl<|.p0 rfl rfl fun x18 _=>.g 1 rfl<|.dn (by kernel_rfl)<|.g 1 rfl<|?_
     refine .cd rfl (fun _ _=>?_) fun _ _=>?_
     ·refine .g 4 rfl<|.p0 rfl rfl fun x19 _=>.g 1 rfl<|.p0 rfl rfl fun x20 _=>.g 5 rfl<|.dn (by kernel_rfl)<|.g 1 rfl<|?_
      refine .cd rfl (fun _ _=>?_) fun _ _=>?_
      ·refine .g 8 rfl<|.fi rfl rfl
      ·refine .g 9 rfl<|.fi rfl rfl
     ·refine .g 6 rfl<|.p0 rfl rfl fun x21 _=>.g 15 rfl<|.p0 rfl rfl fun x22 _=>.g 4 rfl<|.fi rfl rfl
   ·intro h21
    refine .g 9 rfl<|?_
    refine .gd 27 rfl (fun _=>?_) fun _=>?_
    ·refine .g 14 rfl<|.jw (h21 true) [(0,0),(1,1)] rfl
    ·refine .g 3 rfl<|.ln rfl rfl<|.g 3 rfl<|?_
     refine .gd 34 rfl (fun _=>?_) fun _=>?_
     ·refine .g 7 rfl<|.jw (h21 true) [(0,0),(1,1)] rfl
     ·refine .g 3 rfl<|.ln rfl rfl<|.g 3 rfl<|.jw (h21 ((a1.M.Mag.length:Int) == 0)) [(0,0),(1,1)] rfl
 ·intro h24
  refine .g 4 rfl<|?_
  refine .gd 16 rfl (fun _=>?_) fun _=>?_
  ·refine .g 4 rfl<|.jw (h24 true) [(0,0),(1,1)] rfl
  ·refine .g 4 rfl<|.jw (h24 (!x13)) [(0,0),(1,1)] rfl
instance r06_Right_i (a0:AI):PC (r06_Right a0) Tryz.prog 119 [(.agg (kI.enc a0))] (fun r=>(.bool r)):=pc func119 (by kernel_rfl) rfl fun E=>by
 unfold r06_Right
 refine .g 10 rfl<|.p0 rfl rfl fun x6 _=>.g 7 rfl<|.p0 rfl rfl fun x7 _=>.g 4 rfl<|?_
 refine .cut (fun x:Bool=>(r06_Right_j1 x,[eB 2 x],[])) ?_ ?_
 ·rintro y9
  dsimp only [r06_Right_j1]
  refine .g 2 rfl<|.fi rfl rfl
 ·intro h6
  refine .g 3 rfl<|?_
  refine .gd 12 rfl (fun _=>?_) fun _=>?_
  ·refine .g 3 rfl<|?_
   refine .gd 15 rfl (fun _=>?_) fun _=>?_
   ·refine .g 4 rfl<|.p0 rfl rfl fun x10 _=>.g 4 rfl<|.jw (h6 (decide (x10≤0))) [] rfl
   ·refine .g 9 rfl<|.jw (h6 false) [] rfl
  ·refine .g 12 rfl<|.jw (h6 false) [] rfl
instance r06_Has_i (a0:AI) (a1:AD):PC (r06_Has a0 a1) Tryz.prog 57 [(.agg (kI.enc a0)),(.agg (kD.enc a1))] (fun r=>(.bool r)):=pc func57 (by kernel_rfl) rfl fun E=>by
 unfold r06_Has
 refine .g 10 rfl<|.p0 rfl rfl fun x8 _=>.g 6 rfl<|.p0 rfl rfl fun x9 _=>.g 4 rfl<|?_
 refine .cut (fun x:Bool=>(r06_Has_j1 x,[eB 4 x],[])) ?_ ?_
 ·rintro y12
  dsimp only [r06_Has_j1]
  refine .g 2 rfl<|.fi rfl rfl
 ·intro h8
  refine .g 3 rfl<|?_
  refine .gd 12 rfl (fun _=>?_) fun _=>?_
  ·refine .g 3 rfl<|?_
   refine .gd 15 rfl (fun _=>?_) fun _=>?_
   ·refine .g 3 rfl<|.p0 rfl rfl fun x13 _=>.g 3 rfl<|?_
    refine .gd 22 rfl (fun _=>?_) fun _=>?_
    ·refine .g 3 rfl<|.p0 rfl rfl fun x14 _=>.g 4 rfl<|.jw (h8 (decide (x14≤0))) [] rfl
    ·refine .g 8 rfl<|.jw (h8 false) [] rfl
   ·refine .g 15 rfl<|.jw (h8 false) [] rfl
  ·refine .g 18 rfl<|.jw (h8 false) [] rfl
instance l10_examples_i:PC (l10_examples) Tryz.prog 8 [] (fun r=>(.bool r)):=pc func8 (by kernel_rfl) rfl fun E=>by
 unfold l10_examples
 refine .g 7 rfl<|.p0 rfl rfl fun x9 _=>.p0 rfl rfl fun x10 _=>.g 13 rfl<|.p0 rfl rfl fun x11 _=>.g 10 rfl<|.p0 rfl rfl fun x12 _=>.p0 rfl rfl fun x13 _=>.g 9 rfl<|?_
 refine .cut (fun x:Bool=>(l10_examples_j1 x,[eB 0 x],[])) ?_ ?_
 ·rintro y15
  dsimp only [l10_examples_j1]
  refine .g 2 rfl<|.fi rfl rfl
 ·intro h12
  refine .g 4 rfl<|?_
  refine .gd 26 rfl (fun _=>?_) fun _=>?_
  ·refine .g 4 rfl<|?_
   refine .gd 30 rfl (fun _=>?_) fun _=>?_
   ·refine .g 6 rfl<|?_
    refine .gd 36 rfl (fun _=>?_) fun _=>?_
    ·refine .g 4 rfl<|?_
     refine .gd 40 rfl (fun _=>?_) fun _=>?_
     ·refine .g 2 rfl<|.p0 rfl rfl fun x16 _=>.g 2 rfl<|?_
      refine .gd 45 rfl (fun _=>?_) fun _=>?_
      ·refine .g 5 rfl<|.jw (h12 (x13.2 == 4)) [] rfl
      ·refine .g 5 rfl<|.jw (h12 false) [] rfl
     ·refine .g 10 rfl<|.jw (h12 false) [] rfl
    ·refine .g 14 rfl<|.jw (h12 false) [] rfl
   ·refine .g 20 rfl<|.jw (h12 false) [] rfl
  ·refine .g 24 rfl<|.jw (h12 false) [] rfl
instance l10_prec_i (a0:Int):PC (l10_prec a0) Tryz.prog 9 [(.int .i64 a0)] (fun r=>(.int .i64 r)):=pc func9 (by kernel_rfl) rfl fun E=>by
 unfold l10_prec
 refine .g 12 rfl<|?_
 refine .cut (fun x:Int=>(l10_prec_j1 x,[eI 0 x],[])) ?_ ?_
 ·rintro y2
  dsimp only [l10_prec_j1]
  refine .g 10 rfl<|.fi rfl rfl
 ·intro h3
  refine .cd rfl (fun _ _=>?_) fun _ _=>?_
  ·refine .g 6 rfl<|.jw (h3 (IntKind.i64.wrap (0-(IntKind.i64.wrap (a0+1))))) [] rfl
  ·refine .g 1 rfl<|.jw (h3 a0) [] rfl
instance r05_inRange_i (a0:AD):PC (r05_inRange a0) Tryz.prog 122 [(.agg (kD.enc a0))] (fun r=>(.bool r)):=pc func122 (by kernel_rfl) rfl fun E=>by
 unfold r05_inRange
 refine .g 12 rfl<|.ln rfl rfl<|.g 3 rfl<|?_
 refine .cd rfl (fun _ _=>?_) fun _ _=>?_
 ·refine .g 7 rfl<|.fi rfl rfl
 ·refine .g 5 rfl<|.p0 rfl rfl fun x5 _=>.g 4 rfl<|?_
  refine .cut (fun x:Bool=>(r05_inRange_j1 x,[eB 2 x],[])) ?_ ?_
  ·rintro y7
   dsimp only [r05_inRange_j1]
   refine .g 2 rfl<|.fi rfl rfl
  ·intro h9
   refine .g 4 rfl<|?_
   refine .gd 13 rfl (fun _=>?_) fun _=>?_
   ·refine .g 4 rfl<|?_
    refine .gd 17 rfl (fun _=>?_) fun _=>?_
    ·refine .g 5 rfl<|?_
     refine .gd 22 rfl (fun _=>?_) fun _=>?_
     ·refine .g 5 rfl<|?_
      refine .gd 27 rfl (fun _=>?_) fun _=>?_
      ·refine .g 3 rfl<|.p0 rfl rfl fun x8 _=>.g 4 rfl<|.jw (h9 (decide (x8≤262144))) [] rfl
      ·refine .g 8 rfl<|.jw (h9 false) [] rfl
     ·refine .g 13 rfl<|.jw (h9 false) [] rfl
    ·refine .g 18 rfl<|.jw (h9 false) [] rfl
   ·refine .g 22 rfl<|.jw (h9 false) [] rfl
instance r05_Make_i (a0:ApiInt) (a1:Int):PC (r05_Make a0 a1) Tryz.prog 58 [(.agg (kN.enc a0)),(.int .i64 a1)] (fun r=>(.tup [(.agg (kD.enc (⟨((r.1).M),(r.1).E⟩:AD))),(.bool r.2)])):=pc func58 (by kernel_rfl) rfl fun E=>by
 unfold r05_Make
 refine .g 9 rfl<|?_
 refine .cut (fun x:Bool=>(r05_Make_j1 a0 a1 x,[eI 1 a1,eP 2 0,eP 4 1,eB 13 x],[(0,(.live 24 [(.bool a0.Neg),(slK (kInt .u32) a0.Mag)])),(1,(.live 26 [(.bool false),(slK (kInt .u32) []),(.int .i64 0)]))])) ?_ ?_
 ·rintro y4
  dsimp only [r05_Make_j1]
  refine .g 1 rfl<|?_
  refine .cd rfl (fun _ _=>?_) fun _ _=>?_
  ·refine .g 9 rfl<|.fi rfl rfl
  ·refine .g 6 rfl<|.p0 rfl rfl fun x5 _=>.g 7 rfl<|.p0 rfl rfl fun x6 _=>.g 10 rfl<|?_
   refine .cd rfl (fun _ _=>?_) fun _ _=>?_
   ·refine .g 9 rfl<|.fi rfl rfl
   ·refine .g 10 rfl<|.fi rfl rfl
 ·intro h8
  refine .g 4 rfl<|?_
  refine .gd 10 rfl (fun _=>?_) fun _=>?_
  ·refine .g 4 rfl<|.jw (h8 true) [(0,0),(1,1)] rfl
  ·refine .g 4 rfl<|.jw (h8 (decide (a1>100000))) [(0,0),(1,1)] rfl
instance l10_place_i (a0:AD) (a1:Int):PC (l10_place a0 a1) Tryz.prog 11 [(.agg (kD.enc a0)),(.int .i64 a1)] (fun r=>(.agg (kD.enc (⟨((r).M),(r).E⟩:AD)))):=pc func11 (by kernel_rfl) rfl fun E=>by
 unfold l10_place
 refine .g 17 rfl<|.ln rfl rfl<|.g 1 rfl<|.guard fun h1=>.sv (slK (kInt .u32) (a0.M.Mag.take ((mn (a0.M.Mag.length:Int) 2).toNat))) [] rfl (snd_sliceK (kInt .u32) _ _ _ _ _ _ 0 (mn (a0.M.Mag.length:Int) 2) rfl underlying22 si134 rfl rfl rfl rfl rfl h1) rfl<|.p0 rfl rfl fun x3 _=>.g 2 rfl<|.p0 rfl rfl fun x4 _=>.g 6 rfl<|.dn (by kernel_rfl)<|.g 8 rfl<|.fi rfl rfl
instance quo_Sqrt_i (a0:List Int):PC (quo_Sqrt a0) Tryz.prog 194 [(slK (kInt .u32) a0)] (fun r=>(.tup [(slK (kInt .u32) r.1),(slK (kInt .u32) r.2)])):=pc func194 (by kernel_rfl) rfl fun E=>by
 unfold quo_Sqrt
 refine .g 2 rfl<|.st rfl (as0 rfl) rfl<|.st rfl (as0 rfl) rfl<|.g 5 rfl<|.p0 rfl rfl fun x60 _=>.g 7 rfl<|.ln rfl rfl<|.g 3 rfl<|?_
 refine .cd rfl (fun _ _=>?_) fun _ _=>?_
 ·refine .g 2 rfl<|.st rfl (as0 rfl) rfl<|.st rfl (as0 rfl) rfl<|.g 4 rfl<|.fi rfl rfl
 ·refine .g 4 rfl<|.p0 rfl rfl fun x61 _=>.g 1 rfl<|.p0 rfl rfl fun x62 _=>.g 2 rfl<|.p0 rfl rfl fun x63 _=>.g 7 rfl<|?_
  refine .cut (fun x:(List Int)=>(quo_Sqrt_j1 x60 x,[eL 0 x60,eL 2 x],[])) ?_ ?_
  ·rintro y90
   dsimp only [quo_Sqrt_j1]
   refine .g 6 rfl<|.p0 rfl rfl fun x91 _=>.p0 rfl rfl fun x92 _=>.g 15 rfl<|.fi rfl rfl
  ·intro h45
   refine .g 1 rfl<|?_
   refine .lp (fun n (x:(List Int))=>quo_Sqrt_l2 x60 n x) (fun x=>([eL 0 x60,eL 2 x],[])) x63.1 [] rfl ?_
   rintro n2 y110
   try dsimp only
   rw [quo_Sqrt_l2]
   refine .g 5 rfl<|.p0 rfl rfl fun x115 _=>.g 13 rfl<|.p0 rfl rfl fun x116 _=>.p0 rfl rfl fun x117 _=>.g 8 rfl<|.p0 rfl rfl fun x118 _=>.g 3 rfl<|?_
   refine .cd rfl (fun _ _=>?_) fun _ _=>?_
   ·refine .g 5 rfl<|.jw (h45 y110) [] rfl
   ·refine .g 7 rfl<|.ag x117 [] rfl
instance dyad_Sqrt_i (a0:AD) (a1:Int) (a2:Bool):PC (dyad_Sqrt a0 a1 a2) Tryz.prog 127 [(.agg (kD.enc a0)),(.int .i64 a1),(.bool a2)] (fun r=>(.tup [(.agg (kD.enc (⟨((r.1).M),(r.1).E⟩:AD))),(.int .i64 r.2)])):=pc func127 (by kernel_rfl) rfl fun E=>by
 unfold dyad_Sqrt
 refine .g 16 rfl<|?_
 refine .cut (fun x:Bool × Int=>(dyad_Sqrt_j1 a0 a1 a2 x.1 x.2,[eI 1 a1,eB 2 a2,eP 3 0,eP 6 1,eP 8 2,eB 37 x.1],[(0,(.live 26 [(.bool a0.M.Neg),(slK (kInt .u32) a0.M.Mag),(.int .i64 a0.E)])),(1,(.live 26 [(.bool false),(slK (kInt .u32) []),(.int .i64 0)])),(2,(.live 120 [(.int .i64 x.2),(.bool false),(slK (kInt .u32) []),(.int .i64 0)]))])) ?_ ?_
 ·rintro ⟨y27,y28⟩
  dsimp only [dyad_Sqrt_j1]
  refine .g 1 rfl<|?_
  refine .cut (fun x:Bool × (List Int) × Int=>(dyad_Sqrt_j2 y28 x.1 x.2.1 x.2.2,[eP 6 1,eP 8 2],[(1,(.live 26 [(.bool false),(slK (kInt .u32) []),(.int .i64 0)])),(2,(.live 120 [(.int .i64 y28),(.bool x.1),(slK (kInt .u32) x.2.1),(.int .i64 x.2.2)]))])) ?_ ?_
  ·rintro ⟨y33,y34,y35⟩
   dsimp only [dyad_Sqrt_j2]
   refine .g 4 rfl<|.bind fun x36 h14=>.st rfl (cl (CC.h h14) [2] [] [true] rfl (.p rfl<|.nil) (.p rfl (.i<|.b<|.l<|.i<|.nil) .nil) fnil (.cons (.v (.i<|.b<|.l<|.i<|.nil)) .nil) (ren_tupL (.a kD<|.i<|.nil)) (.turned .nil) rfl) rfl<|.g 7 rfl<|.fi rfl rfl
  ·intro h15
   refine .cd rfl (fun _ _=>?_) fun _ _=>?_
   ·refine .g 8 rfl<|.p0 rfl rfl fun x37 _=>.g 23 rfl<|.p0 rfl rfl fun x38 _=>.p0 rfl rfl fun x39 _=>.g 16 rfl<|.ln rfl rfl<|.g 3 rfl<|.bind fun x40 h21=>.st rfl (cl (CC.h h21) [2] [] [true] rfl (.p rfl<|.b<|.l<|.i<|.b<|.i<|.b<|.nil) (.p rfl (.i<|.b<|.l<|.i<|.nil) .nil) fnil (.cons (.v (.i<|.b<|.l<|.i<|.nil)) .nil) (ren_tupL .nil) (.turned .nil) rfl) rfl<|.g 1 rfl<|.jw (h15 (x40.1,x40.2.1,x40.2.2)) [(1,1),(2,2)] rfl
   ·refine .g 1 rfl<|.jw (h15 (false,[],0)) [(1,1),(2,2)] rfl
 ·intro h22
  refine .g 3 rfl<|.st rfl (bs kD [a0] rfl rfl) rfl<|.bind fun x41 h23=>.st rfl (cl (CC.h h23) [2] [] [true] rfl (.p rfl<|.l<|.nil) (.p rfl (.i<|.b<|.l<|.i<|.nil) .nil) fnil (.cons (.v (.i<|.b<|.l<|.i<|.nil)) .nil) (.bool _) (.turned .nil) rfl) rfl<|.g 1 rfl<|?_
  refine .gd 18 rfl (fun _=>?_) fun _=>?_
  ·refine .g 2 rfl<|.bind fun x42 h25=>.st rfl (cl (CC.h h25) [2] [] [true] rfl (.p rfl<|.i<|.nil) (.p rfl (.i<|.b<|.l<|.i<|.nil) .nil) fnil (.cons (.v (.i<|.b<|.l<|.i<|.nil)) .nil) (.bool _) (.turned .nil) rfl) rfl<|.g 2 rfl<|?_
   refine .gd 23 rfl (fun _=>?_) fun _=>?_
   ·refine .g 7 rfl<|.bind fun x43 h27=>.st rfl (cl (CC.h h27) [2] [] [true] rfl (.p rfl<|.b<|.i<|.nil) (.p rfl (.i<|.b<|.l<|.i<|.nil) .nil) fnil (.cons (.v (.i<|.b<|.l<|.i<|.nil)) .nil) (.bool _) (.turned .nil) rfl) rfl<|.g 2 rfl<|?_
    refine .gd 33 rfl (fun _=>?_) fun _=>?_
    ·refine .g 1 rfl<|.p0 rfl rfl fun x44 _=>.g 2 rfl<|.dn (by kernel_rfl)<|.jw (h22 ((!x44),x43.2)) [(0,0),(1,1),(2,2)] rfl
    ·refine .g 4 rfl<|.dn (by kernel_rfl)<|.jw (h22 (false,x43.2)) [(0,0),(1,1),(2,2)] rfl
   ·refine .g 14 rfl<|.dn (by kernel_rfl)<|.jw (h22 (false,x42.2)) [(0,0),(1,1),(2,2)] rfl
  ·refine .g 19 rfl<|.dn (by kernel_rfl)<|.jw (h22 (false,x41.2)) [(0,0),(1,1),(2,2)] rfl
instance cv_Sqrt_i (a0:AI) (a1:Int) (a2:Int):CC (cv_Sqrt a0 a1 a2) Tryz.prog 64 [(.ptr 0 0),(.agg (kI.enc a0))] [(.live 54 [(.int .i64 a1),(.int .i64 a2)])] (fun r=>(.agg (kI.enc (⟨⟨(((r.1).Lo).M),((r.1).Lo).E⟩,⟨(((r.1).Hi).M),((r.1).Hi).E⟩⟩:AI)))) (fun r=>[(.live 54 [(.int .i64 r.2),(.int .i64 a2)])]):=cc func64 (by kernel_rfl) rfl fun E=>by
 unfold cv_Sqrt
 refine .g 11 rfl<|.st rfl (bs kI [a0] rfl rfl) rfl<|.bind fun x7 h1=>.st rfl (cl (CC.h h1) [0] [] [true] rfl (.p rfl<|.l<|.nil) (.p rfl (.i<|.i<|.nil) .nil) fnil (.cons (.v (.i<|.i<|.nil)) .nil) (.bool _) (.turned .nil) rfl) rfl<|.g 3 rfl<|?_
 refine .cd rfl (fun _ _=>?_) fun _ _=>?_
 ·refine .g 8 rfl<|.fi rfl rfl
 ·refine .g 11 rfl<|.p0 rfl rfl fun x8 _=>.g 2 rfl<|.bind fun x9 h5=>.st rfl (cl (CC.h h5) [0] [] [true] rfl (.p rfl<|.a kD<|.i<|.nil) (.p rfl (.i<|.i<|.nil) .nil) fnil (.cons (.v (.i<|.i<|.nil)) .nil) (ren_agg (K:=kD) _) (.turned .nil) rfl) rfl<|.g 2 rfl<|.dn (by kernel_rfl)<|.g 12 rfl<|?_
  refine .cd rfl (fun _ _=>?_) fun _ _=>?_
  ·refine .g 8 rfl<|.fi rfl rfl
  ·refine .g 13 rfl<|.p0 rfl rfl fun x10 _=>.g 2 rfl<|.bind fun x11 h9=>.st rfl (cl (CC.h h9) [0] [] [true] rfl (.p rfl<|.a kD<|.i<|.nil) (.p rfl (.i<|.i<|.nil) .nil) fnil (.cons (.v (.i<|.i<|.nil)) .nil) (ren_agg (K:=kD) _) (.turned .nil) rfl) rfl<|.bind fun x12 h10=>.st rfl (cl (CC.h h10) [0] [] [false] rfl (.p rfl<|.a kD<|.a kD<|.nil) (.p rfl (.i<|.i<|.nil) .nil) fnil (.cons (.v (.i<|.i<|.nil)) .nil) (ren_agg (K:=kI) _) (.kept rfl .nil) rfl) rfl<|.g 1 rfl<|.dn (by kernel_rfl)<|.g 2 rfl<|.fi rfl rfl
end Go.Proofs.YtjffljhmjdljeaaGreat.Gen
