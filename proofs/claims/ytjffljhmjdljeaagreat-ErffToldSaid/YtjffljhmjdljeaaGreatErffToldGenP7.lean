/- Printed by geng.py: a call does what the plain function says. -/
import Derived.Test.YtjffljhmjdljeaaGreatErffToldGenP6
set_option linter.unusedVariables false
set_option linter.unusedSimpArgs false
set_option maxRecDepth 4000
namespace Go.Proofs.YtjffljhmjdljeaaGreat.Gen
open Go Go.Abs Go.Proofs Go.Proofs.Tryz
instance r08_Pi_i (a0:Int) (a1:Int):CC (r08_Pi a0 a1) Tryz.prog 182 [(.ptr 0 0)] [(.live 171 [(.int .i64 a0),(.int .i64 a1)])] (fun r=>(.agg (kI.enc (⟨⟨(((r.1).Lo).M),((r.1).Lo).E⟩,⟨(((r.1).Hi).M),((r.1).Hi).E⟩⟩:AI)))) (fun r=>[(.live 171 [(.int .i64 a0),(.int .i64 r.2)])]):=cc func182 (by kernel_rfl) rfl fun E=>by
 unfold r08_Pi
 refine .g 10 rfl<|.bind fun x12 h1=>.st rfl (cl (CC.h h1) [0] [] [true] rfl (.p rfl<|.i<|.nil) (.p rfl (.i<|.i<|.nil) .nil) fnil (.cons (.v (.i<|.i<|.nil)) .nil) (ren_agg (K:=kI) _) (.turned .nil) rfl) rfl<|.g 1 rfl<|.bind fun x13 h2=>.st rfl (cl (CC.h h2) [0] [] [true] rfl (.p rfl<|.i<|.nil) (.p rfl (.i<|.i<|.nil) .nil) fnil (.cons (.v (.i<|.i<|.nil)) .nil) (ren_agg (K:=kI) _) (.turned .nil) rfl) rfl<|.bind fun x14 h3=>.st rfl (cl (CC.h h3) [0] [] [true] rfl (.p rfl<|.a kI<|.a kI<|.nil) (.p rfl (.i<|.i<|.nil) .nil) fnil (.cons (.v (.i<|.i<|.nil)) .nil) (ren_agg (K:=kI) _) (.turned .nil) rfl) rfl<|.bind fun x15 h4=>.st rfl (cl (CC.h h4) [0] [] [true] rfl (.p rfl<|.a kI<|.nil) (.p rfl (.i<|.i<|.nil) .nil) fnil (.cons (.v (.i<|.i<|.nil)) .nil) (ren_agg (K:=kI) _) (.turned .nil) rfl) rfl<|.g 9 rfl<|.bind fun x16 h5=>.st rfl (cl (CC.h h5) [0] [] [true] rfl (.p rfl<|.i<|.nil) (.p rfl (.i<|.i<|.nil) .nil) fnil (.cons (.v (.i<|.i<|.nil)) .nil) (ren_agg (K:=kI) _) (.turned .nil) rfl) rfl<|.g 1 rfl<|?_
 refine .bind fun x17 h6=>.st rfl (cl (CC.h h6) [0] [] [true] rfl (.p rfl<|.i<|.nil) (.p rfl (.i<|.i<|.nil) .nil) fnil (.cons (.v (.i<|.i<|.nil)) .nil) (ren_agg (K:=kI) _) (.turned .nil) rfl) rfl<|.bind fun x18 h7=>.st rfl (cl (CC.h h7) [0] [] [true] rfl (.p rfl<|.a kI<|.a kI<|.nil) (.p rfl (.i<|.i<|.nil) .nil) fnil (.cons (.v (.i<|.i<|.nil)) .nil) (ren_agg (K:=kI) _) (.turned .nil) rfl) rfl<|.bind fun x19 h8=>.st rfl (cl (CC.h h8) [0] [] [true] rfl (.p rfl<|.a kI<|.nil) (.p rfl (.i<|.i<|.nil) .nil) fnil (.cons (.v (.i<|.i<|.nil)) .nil) (ren_agg (K:=kI) _) (.turned .nil) rfl) rfl<|.g 9 rfl<|.bind fun x20 h9=>.st rfl (cl (CC.h h9) [0] [] [true] rfl (.p rfl<|.a kI<|.i<|.nil) (.p rfl (.i<|.i<|.nil) .nil) fnil (.cons (.v (.i<|.i<|.nil)) .nil) (ren_agg (K:=kI) _) (.turned .nil) rfl) rfl<|.g 2 rfl<|.bind fun x21 h10=>.st rfl (cl (CC.h h10) [0] [] [true] rfl (.p rfl<|.a kI<|.i<|.nil) (.p rfl (.i<|.i<|.nil) .nil) fnil (.cons (.v (.i<|.i<|.nil)) .nil) (ren_agg (K:=kI) _) (.turned .nil) rfl) rfl<|.bind fun x22 h11=>.st rfl (cl (CC.h h11) [0] [] [true] rfl (.p rfl<|.a kI<|.a kI<|.nil) (.p rfl (.i<|.i<|.nil) .nil) fnil (.cons (.v (.i<|.i<|.nil)) .nil) (ren_agg (K:=kI) _) (.turned .nil) rfl) rfl<|?_
 refine .g 1 rfl<|.dn (by kernel_rfl)<|.g 2 rfl<|.fi rfl rfl
instance r03_Sqrt_i (a0:List Int):PC (r03_Sqrt a0) Tryz.prog 264 [(slK (kInt .u32) a0)] (fun r=>(.tup [(slK (kInt .u32) r.1),(slK (kInt .u32) r.2)])):=pc func264 (by kernel_rfl) rfl fun E=>by
 unfold r03_Sqrt
 refine .g 2 rfl<|.st rfl (as0 rfl) rfl<|.st rfl (as0 rfl) rfl<|.g 4 rfl<|.st rfl (as0 rfl) rfl<|.g 5 rfl<|.p0 rfl rfl fun x125 _=>.g 7 rfl<|.p0 rfl rfl fun x126 _=>.g 5 rfl<|?_
 refine .cut (fun x:(List Int) × (List Int)=>(r03_Sqrt_j1 x.1 x.2,[eL 4 x.1,eL 5 x.2],[])) ?_ ?_
 ·rintro ⟨y187,y188⟩
  dsimp only [r03_Sqrt_j1]
  refine .g 10 rfl<|.fi rfl rfl
 ·intro h75
  refine .g 1 rfl<|?_
  refine .lp (fun n (x:(List Int) × (List Int) × Int)=>r03_Sqrt_l2 n x.1 x.2.1 x.2.2) (fun x=>([eL 4 x.1,eL 5 x.2.1,eI 6 x.2.2],[])) ([],x125,(IntKind.i64.wrap ((IntKind.i64.wrap (x126-1)).tdiv 2))) [] rfl ?_
  rintro n2 ⟨y228,y229,y230⟩
  try dsimp only
  rw [r03_Sqrt_l2]
  refine .g 7 rfl<|?_
  refine .cd rfl (fun _ _=>?_) fun _ _=>?_
  ·refine .g 7 rfl<|.p0 rfl rfl fun x240 _=>.g 9 rfl<|.st rfl (bs (kInt .u32) [1] rfl rfl) rfl<|.g 1 rfl<|.p0 rfl rfl fun x241 _=>.g 11 rfl<|.p0 rfl rfl fun x242 _=>.g 1 rfl<|.p0 rfl rfl fun x243 _=>.g 11 rfl<|.p0 rfl rfl fun x244 _=>.g 12 rfl<|?_
   refine .cut (fun x:(List Int) × (List Int)=>(r03_Sqrt_j3 (fun z0 z1 z2=>r03_Sqrt_l2 n2 z0 z1 z2) y230 x.1 x.2,[eL 4 x.1,eL 5 x.2,eI 6 y230],[])) ?_ ?_
   ·rintro ⟨y246,y247⟩
    dsimp only [r03_Sqrt_j3]
    refine .g 7 rfl<|.ag (y246,y247,(IntKind.i64.wrap (y230-1))) [] rfl
   ·intro h145
    refine .cd rfl (fun _ _=>?_) fun _ _=>?_
    ·refine .g 9 rfl<|.p0 rfl rfl fun x248 _=>.g 2 rfl<|.jw (h145 (x248,x244.1)) [] rfl
    ·refine .g 1 rfl<|.jw (h145 (y228,y229)) [] rfl
  ·refine .g 4 rfl<|.jw (h75 (y228,y229)) [] rfl
instance r05_Sqrt_i (a0:AD) (a1:Int) (a2:Bool):PC (r05_Sqrt a0 a1 a2) Tryz.prog 256 [(.agg (kD.enc a0)),(.int .i64 a1),(.bool a2)] (fun r=>(.tup [(.agg (kD.enc (⟨((r.1).M),(r.1).E⟩:AD))),(.int .i64 r.2)])):=pc func256 (by kernel_rfl) rfl fun E=>by
 unfold r05_Sqrt
 refine .g 10 rfl<|.p0 rfl rfl fun x11 _=>.g 5 rfl<|?_
 refine .cut (fun x:Bool=>(r05_Sqrt_j1 a0 a1 a2 x,[eI 1 a1,eB 2 a2,eP 3 0,eP 6 1,eB 20 x],[(0,(.live 26 [(.bool a0.M.Neg),(slK (kInt .u32) a0.M.Mag),(.int .i64 a0.E)])),(1,(.live 26 [(.bool false),(slK (kInt .u32) []),(.int .i64 0)]))])) ?_ ?_
 ·rintro y13
  dsimp only [r05_Sqrt_j1]
  refine .g 1 rfl<|?_
  refine .cd rfl (fun _ _=>?_) fun _ _=>?_
  ·refine .g 9 rfl<|.fi rfl rfl
  ·refine .g 10 rfl<|?_
   refine .cd rfl (fun _ _=>?_) fun _ _=>?_
   ·refine .g 9 rfl<|.fi rfl rfl
   ·refine .g 8 rfl<|.ln rfl rfl<|.g 3 rfl<|?_
    refine .cd rfl (fun _ _=>?_) fun _ _=>?_
    ·refine .g 9 rfl<|.fi rfl rfl
    ·refine .g 10 rfl<|.p0 rfl rfl fun x14 _=>.g 16 rfl<|?_
     refine .cut (fun x:Int=>(r05_Sqrt_j2 a0 a1 a2 x,[eI 1 a1,eB 2 a2,eP 3 0,eP 6 1,eI 9 x],[(0,(.live 26 [(.bool a0.M.Neg),(slK (kInt .u32) a0.M.Mag),(.int .i64 a0.E)])),(1,(.live 26 [(.bool false),(slK (kInt .u32) []),(.int .i64 0)]))])) ?_ ?_
     ·rintro y15
      dsimp only [r05_Sqrt_j2]
      refine .g 7 rfl<|.p0 rfl rfl fun x16 _=>.p0 rfl rfl fun x17 _=>.g 16 rfl<|.ln rfl rfl<|.g 3 rfl<|.p0 rfl rfl fun x18 _=>.p0 rfl rfl fun x19 _=>.g 7 rfl<|.fi rfl rfl
     ·intro h17
      refine .cd rfl (fun _ _=>?_) fun _ _=>?_
      ·refine .g 5 rfl<|.jw (h17 (IntKind.i64.wrap ((mx 0 (IntKind.i64.wrap ((IntKind.i64.wrap ((IntKind.i64.wrap (2*a1))+4))-x14)))+1))) [(0,0),(1,1)] rfl
      ·refine .g 1 rfl<|.jw (h17 (mx 0 (IntKind.i64.wrap ((IntKind.i64.wrap ((IntKind.i64.wrap (2*a1))+4))-x14)))) [(0,0),(1,1)] rfl
 ·intro h20
  refine .g 4 rfl<|?_
  refine .gd 16 rfl (fun _=>?_) fun _=>?_
  ·refine .g 5 rfl<|.jw (h20 true) [(0,0),(1,1)] rfl
  ·refine .g 1 rfl<|.p0 rfl rfl fun x20 _=>.g 3 rfl<|.jw (h20 (!x20)) [(0,0),(1,1)] rfl
instance r06_CSqrt_i (a0:AI) (a1:Int) (a2:Int):CC (r06_CSqrt a0 a1 a2) Tryz.prog 231 [(.ptr 0 0),(.agg (kI.enc a0))] [(.live 171 [(.int .i64 a1),(.int .i64 a2)])] (fun r=>(.agg (kI.enc (⟨⟨(((r.1).Lo).M),((r.1).Lo).E⟩,⟨(((r.1).Hi).M),((r.1).Hi).E⟩⟩:AI)))) (fun r=>[(.live 171 [(.int .i64 a1),(.int .i64 r.2)])]):=cc func231 (by kernel_rfl) rfl fun E=>by
 unfold r06_CSqrt
 refine .g 11 rfl<|.st rfl (bs kI [a0] rfl rfl) rfl<|.bind fun x7 h1=>.st rfl (cl (CC.h h1) [0] [] [true] rfl (.p rfl<|.l<|.nil) (.p rfl (.i<|.i<|.nil) .nil) fnil (.cons (.v (.i<|.i<|.nil)) .nil) (.bool _) (.turned .nil) rfl) rfl<|.g 3 rfl<|?_
 refine .cd rfl (fun _ _=>?_) fun _ _=>?_
 ·refine .g 8 rfl<|.fi rfl rfl
 ·refine .g 10 rfl<|.p0 rfl rfl fun x8 _=>.g 6 rfl<|.dn (by kernel_rfl)<|.g 6 rfl<|.bind fun x9 h5=>.st rfl (cl (CC.h h5) [0] [] [true] rfl (.p rfl<|.i<|.nil) (.p rfl (.i<|.i<|.nil) .nil) fnil (.cons (.v (.i<|.i<|.nil)) .nil) (.bool _) (.turned .nil) rfl) rfl<|.g 3 rfl<|?_
  refine .cd rfl (fun _ _=>?_) fun _ _=>?_
  ·refine .g 8 rfl<|.fi rfl rfl
  ·refine .g 10 rfl<|.p0 rfl rfl fun x10 _=>.g 6 rfl<|.dn (by kernel_rfl)<|.g 5 rfl<|.bind fun x11 h9=>.st rfl (cl (CC.h h9) [0] [] [true] rfl (.p rfl<|.i<|.nil) (.p rfl (.i<|.i<|.nil) .nil) fnil (.cons (.v (.i<|.i<|.nil)) .nil) (.bool _) (.turned .nil) rfl) rfl<|.g 7 rfl<|.bind fun x12 h10=>.st rfl (cl (CC.h h10) [0] [] [false] rfl (.p rfl<|.a kD<|.a kD<|.nil) (.p rfl (.i<|.i<|.nil) .nil) fnil (.cons (.v (.i<|.i<|.nil)) .nil) (ren_agg (K:=kI) _) (.kept rfl .nil) rfl) rfl<|.g 4 rfl<|.fi rfl rfl
instance r08_Root_i (a0:Int) (a1:Int):CC (r08_Root a0 a1) Tryz.prog 170 [(.ptr 0 0)] [(.live 171 [(.int .i64 a0),(.int .i64 a1)])] (fun r=>(.agg (kI.enc (⟨⟨(((r.1).Lo).M),((r.1).Lo).E⟩,⟨(((r.1).Hi).M),((r.1).Hi).E⟩⟩:AI)))) (fun r=>[(.live 171 [(.int .i64 a0),(.int .i64 r.2)])]):=cc func170 (by kernel_rfl) rfl fun E=>by
 unfold r08_Root
 refine .g 9 rfl<|.bind fun x3 h1=>.st rfl (cl (CC.h h1) [0] [] [true] rfl (.p rfl<|.nil) (.p rfl (.i<|.i<|.nil) .nil) fnil (.cons (.v (.i<|.i<|.nil)) .nil) (ren_agg (K:=kI) _) (.turned .nil) rfl) rfl<|.bind fun x4 h2=>.st rfl (cl (CC.h h2) [0] [] [true] rfl (.p rfl<|.a kI<|.nil) (.p rfl (.i<|.i<|.nil) .nil) fnil (.cons (.v (.i<|.i<|.nil)) .nil) (ren_agg (K:=kI) _) (.turned .nil) rfl) rfl<|.g 4 rfl<|.fi rfl rfl
instance r11_sum_i (a0:AD) (a1:Int) (a2:Int):PC (r11_sum a0 a1 a2) Tryz.prog 100 [(.agg (kD.enc a0)),(.int .i64 a1),(.int .i64 a2)] (fun r=>(.tup [(.agg (kI.enc (⟨⟨(((r.1).Lo).M),((r.1).Lo).E⟩,⟨(((r.1).Hi).M),((r.1).Hi).E⟩⟩:AI))),(.int .i64 r.2)])):=pc func100 (by kernel_rfl) rfl fun E=>by
 unfold r11_sum
 refine .g 17 rfl<|.bind fun x158 h1=>?_
 rcases x158 with x159 | x160
 ·dsimp only
  refine .st rfl (cl (r06_New_k_0 h1) [] [2] [true] rfl (.i<|.nil) .nil (fresh_cons rfl fnil) (.cons .dead .nil) .nilptr (.turned .nil) rfl) rfl<|.g 18 rfl<|?_
  refine .cut (fun x:Bool × (List Int) × Int=>(r11_sum_j1 a2 x.1 x.2.1 x.2.2,[eI 1 a1,eI 2 a2,eP 3 0,eP 6 1,eI 8 (IntKind.i64.wrap (a2+64)),(9,some .nilptr),eP 10 3],[(0,(.live 26 [(.bool a0.M.Neg),(slK (kInt .u32) a0.M.Mag),(.int .i64 a0.E)])),(1,(.live 37 [(.bool false),(slK (kInt .u32) []),(.int .i64 0),(.bool false),(slK (kInt .u32) []),(.int .i64 0)])),(3,(.live 26 [(.bool x.1),(slK (kInt .u32) x.2.1),(.int .i64 x.2.2)]))])) ?_ ?_
  ·rintro ⟨y162,y163,y164⟩
   dsimp only [r11_sum_j1]
   refine .g 5 rfl<|.p0 rfl rfl fun x165 _=>.g 15 rfl<|?_
   refine .cd rfl (fun _ _=>?_) fun _ _=>?_
   ·refine .g 10 rfl<|.fi rfl rfl
   ·refine .g 5 rfl<|.p0 rfl rfl fun x166 _=>.g 1 rfl<|.p0 rfl rfl fun x167 _=>.g 15 rfl<|?_
    refine .cd rfl (fun _ _=>?_) fun _ _=>?_
    ·refine .g 10 rfl<|.fi rfl rfl
    ·refine .g 8 rfl<|.no
  ·intro h12
   refine .cd rfl (fun _ _=>?_) fun _ _=>?_
   ·refine .g 2 rfl<|.p0 rfl rfl fun x168 _=>.g 2 rfl<|.jw (h12 (((x168).M).Neg,((x168).M).Mag,(x168).E)) [(0,0),(1,1),(3,3)] rfl
   ·refine .g 1 rfl<|.jw (h12 (a0.M.Neg,a0.M.Mag,a0.E)) [(0,0),(1,1),(3,3)] rfl
 ·dsimp only
  refine .st rfl (cl (r06_New_k_1 h1) [] [2] [true] rfl (.i<|.nil) .nil (fresh_cons rfl fnil) (.cons (.v (.i<|.i<|.nil)) .nil) (.ptr _ _ _ rfl) (.turned .nil) rfl) rfl<|.g 18 rfl<|?_
  refine .cut (fun x:Bool × (List Int) × Int=>(r11_sum_j2 a2 x160 a1 a0 x.1 x.2.1 x.2.2,[eI 1 a1,eI 2 a2,eP 3 0,eP 6 1,eI 8 (IntKind.i64.wrap (a2+64)),eP 9 2,eP 10 3],[(0,(.live 26 [(.bool a0.M.Neg),(slK (kInt .u32) a0.M.Mag),(.int .i64 a0.E)])),(1,(.live 37 [(.bool false),(slK (kInt .u32) []),(.int .i64 0),(.bool false),(slK (kInt .u32) []),(.int .i64 0)])),(2,(.live 171 [(.int .i64 x160.1),(.int .i64 x160.2)])),(3,(.live 26 [(.bool x.1),(slK (kInt .u32) x.2.1),(.int .i64 x.2.2)]))])) ?_ ?_
  ·rintro ⟨y170,y171,y172⟩
   dsimp only [r11_sum_j2]
   refine .g 5 rfl<|.p0 rfl rfl fun x173 _=>.g 15 rfl<|?_
   refine .cd rfl (fun _ _=>?_) fun _ _=>?_
   ·refine .g 10 rfl<|.fi rfl rfl
   ·refine .g 5 rfl<|.p0 rfl rfl fun x174 _=>.g 1 rfl<|.p0 rfl rfl fun x175 _=>.g 15 rfl<|?_
    refine .cd rfl (fun _ _=>?_) fun _ _=>?_
    ·refine .g 10 rfl<|.fi rfl rfl
    ·refine .g 8 rfl<|.bind fun x176 h26=>.st rfl (cl (CC.h h26) [2] [] [true] rfl (.p rfl<|.a kD<|.nil) (.p rfl (.i<|.i<|.nil) .nil) fnil (.cons (.v (.i<|.i<|.nil)) .nil) (ren_agg (K:=kI) _) (.turned .nil) rfl) rfl<|.g 2 rfl<|.bind fun x177 h27=>.st rfl (cl (CC.h h27) [2] [] [true] rfl (.p rfl<|.a kD<|.nil) (.p rfl (.i<|.i<|.nil) .nil) fnil (.cons (.v (.i<|.i<|.nil)) .nil) (ren_agg (K:=kI) _) (.turned .nil) rfl) rfl<|.bind fun x178 h28=>.st rfl (cl (CC.h h28) [2] [] [true] rfl (.p rfl<|.a kI<|.a kI<|.nil) (.p rfl (.i<|.i<|.nil) .nil) fnil (.cons (.v (.i<|.i<|.nil)) .nil) (ren_agg (K:=kI) _) (.turned .nil) rfl) rfl<|.bind fun x179 h29=>.st rfl (cl (CC.h h29) [2] [] [true] rfl (.p rfl<|.a kI<|.i<|.nil) (.p rfl (.i<|.i<|.nil) .nil) fnil (.cons (.v (.i<|.i<|.nil)) .nil) (ren_agg (K:=kI) _) (.turned .nil) rfl) rfl<|.g 2 rfl<|.dn (by kernel_rfl)<|.g 5 rfl<|.bind fun x180 h30=>?_
     refine .st rfl (cl (CC.h h30) [2] [] [true] rfl (.p rfl<|.a kD<|.nil) (.p rfl (.i<|.i<|.nil) .nil) fnil (.cons (.v (.i<|.i<|.nil)) .nil) (ren_agg (K:=kI) _) (.turned .nil) rfl) rfl<|.g 8 rfl<|.bind fun x181 h31=>.st rfl (cl (CC.h h31) [2] [] [true] rfl (.p rfl<|.a kD<|.nil) (.p rfl (.i<|.i<|.nil) .nil) fnil (.cons (.v (.i<|.i<|.nil)) .nil) (ren_agg (K:=kI) _) (.turned .nil) rfl) rfl<|.g 10 rfl<|?_
     refine .cut (fun x:Int × Bool × (List Int) × Int × Bool × (List Int) × Int × Bool × (List Int) × Int × Bool × (List Int) × Int=>(r11_sum_j3 x160 x175 a0 a2 x.1 x.2.1 x.2.2.1 x.2.2.2.1 x.2.2.2.2.1 x.2.2.2.2.2.1 x.2.2.2.2.2.2.1 x.2.2.2.2.2.2.2.1 x.2.2.2.2.2.2.2.2.1 x.2.2.2.2.2.2.2.2.2.1 x.2.2.2.2.2.2.2.2.2.2.1 x.2.2.2.2.2.2.2.2.2.2.2.1 x.2.2.2.2.2.2.2.2.2.2.2.2,[eI 2 a2,eP 3 0,eP 6 1,eP 9 2,eP 13 5,eP 16 7,eP 17 8],[(0,(.live 26 [(.bool a0.M.Neg),(slK (kInt .u32) a0.M.Mag),(.int .i64 a0.E)])),(1,(.live 37 [(.bool false),(slK (kInt .u32) []),(.int .i64 0),(.bool false),(slK (kInt .u32) []),(.int .i64 0)])),(2,(.live 171 [(.int .i64 x160.1),(.int .i64 x.1)])),(5,(.live 37 [(.bool ((((x175.1).Lo).M).Neg)),(slK (kInt .u32) ((((x175.1).Lo).M).Mag)),(.int .i64 (((x175.1).Lo).E)),(.bool ((((x175.1).Hi).M).Neg)),(slK (kInt .u32) ((((x175.1).Hi).M).Mag)),(.int .i64 (((x175.1).Hi).E))])),(7,(.live 37 [(.bool x.2.1),(slK (kInt .u32) x.2.2.1),(.int .i64 x.2.2.2.1),(.bool x.2.2.2.2.1),(slK (kInt .u32) x.2.2.2.2.2.1),(.int .i64 x.2.2.2.2.2.2.1)])),(8,(.live 37 [(.bool x.2.2.2.2.2.2.2.1),(slK (kInt .u32) x.2.2.2.2.2.2.2.2.1),(.int .i64 x.2.2.2.2.2.2.2.2.2.1),(.bool x.2.2.2.2.2.2.2.2.2.2.1),(slK (kInt .u32) x.2.2.2.2.2.2.2.2.2.2.2.1),(.int .i64 x.2.2.2.2.2.2.2.2.2.2.2.2)]))])) ?_ ?_
     ·rintro ⟨y234,y235,y236,y237,y238,y239,y240,y241,y242,y243,y244,y245,y246⟩
      dsimp only [r11_sum_j3]
      refine .g 7 rfl<|.bind fun x247 h62=>.st rfl (cl (CC.h h62) [2] [] [true] rfl (.p rfl<|.a kI<|.a kD<|.nil) (.p rfl (.i<|.i<|.nil) .nil) fnil (.cons (.v (.i<|.i<|.nil)) .nil) (ren_agg (K:=kI) _) (.turned .nil) rfl) rfl<|.g 9 rfl<|.bind fun x248 h63=>.st rfl (cl (CC.h h63) [2] [] [true] rfl (.p rfl<|.a kI<|.i<|.nil) (.p rfl (.i<|.i<|.nil) .nil) fnil (.cons (.v (.i<|.i<|.nil)) .nil) (ren_agg (K:=kI) _) (.turned .nil) rfl) rfl<|.g 1 rfl<|.bind fun x249 h64=>.st rfl (cl (CC.h h64) [2] [] [true] rfl (.p rfl<|.a kI<|.a kI<|.nil) (.p rfl (.i<|.i<|.nil) .nil) fnil (.cons (.v (.i<|.i<|.nil)) .nil) (ren_agg (K:=kI) _) (.turned .nil) rfl) rfl<|.g 1 rfl<|.bind fun x250 h65=>.st rfl (cl (CC.h h65) [2] [] [true] rfl (.p rfl<|.nil) (.p rfl (.i<|.i<|.nil) .nil) fnil (.cons (.v (.i<|.i<|.nil)) .nil) (ren_agg (K:=kI) _) (.turned .nil) rfl) rfl<|.bind fun x251 h66=>.st rfl (cl (CC.h h66) [2] [] [true] rfl (.p rfl<|.a kI<|.a kI<|.nil) (.p rfl (.i<|.i<|.nil) .nil) fnil (.cons (.v (.i<|.i<|.nil)) .nil) (ren_agg (K:=kI) _) (.turned .nil) rfl) rfl<|?_
      refine .g 2 rfl<|.dn (by kernel_rfl)<|.g 9 rfl<|?_
      refine .cut (fun x:Int × Bool × (List Int) × Int × Bool × (List Int) × Int=>(r11_sum_j4 a2 x160 x.1 x.2.1 x.2.2.1 x.2.2.2.1 x.2.2.2.2.1 x.2.2.2.2.2.1 x.2.2.2.2.2.2,[eI 2 a2,eP 6 1,eP 9 2,eP 19 3],[(1,(.live 37 [(.bool false),(slK (kInt .u32) []),(.int .i64 0),(.bool false),(slK (kInt .u32) []),(.int .i64 0)])),(2,(.live 171 [(.int .i64 x160.1),(.int .i64 x.1)])),(3,(.live 37 [(.bool x.2.1),(slK (kInt .u32) x.2.2.1),(.int .i64 x.2.2.2.1),(.bool x.2.2.2.2.1),(slK (kInt .u32) x.2.2.2.2.2.1),(.int .i64 x.2.2.2.2.2.2)]))])) ?_ ?_
      ·rintro ⟨y253,y254,y255,y256,y257,y258,y259⟩
       dsimp only [r11_sum_j4]
       refine .g 6 rfl<|.bind fun x260 h70=>.st rfl (cl (CC.h h70) [2] [] [false] rfl (.p rfl<|.a kI<|.i<|.nil) (.p rfl (.i<|.i<|.nil) .nil) fnil (.cons (.v (.i<|.i<|.nil)) .nil) (ren_tupL (.a kI<|.i<|.nil)) (.kept rfl .nil) rfl) rfl<|.g 7 rfl<|.fi rfl rfl
      ·intro h71
       refine .cd rfl (fun _ _=>?_) fun _ _=>?_
       ·refine .g 3 rfl<|.bind fun x261 h74=>.st rfl (cl (CC.h h74) [2] [] [true] rfl (.p rfl<|.a kI<|.nil) (.p rfl (.i<|.i<|.nil) .nil) fnil (.cons (.v (.i<|.i<|.nil)) .nil) (ren_agg (K:=kI) _) (.turned .nil) rfl) rfl<|.g 2 rfl<|.jw (h71 (x261.2,(((x261.1).Lo).M).Neg,(((x261.1).Lo).M).Mag,((x261.1).Lo).E,(((x261.1).Hi).M).Neg,(((x261.1).Hi).M).Mag,((x261.1).Hi).E)) [(1,1),(2,2),(3,3)] rfl
       ·refine .g 1 rfl<|.jw (h71 (x251.2,(((x251.1).Lo).M).Neg,(((x251.1).Lo).M).Mag,((x251.1).Lo).E,(((x251.1).Hi).M).Neg,(((x251.1).Hi).M).Mag,((x251.1).Hi).E)) [(1,1),(2,2),(3,3)] rfl
     ·intro h75
      refine .g 1 rfl<|?_
      refine .lp (fun n (x:Int × Int × Bool × (List Int) × Int × Bool × (List Int) × Int × Bool × (List Int) × Int × Bool × (List Int) × Int)=>r11_sum_l5 a1 x179 x160 x175 a0 a2 n x.1 x.2.1 x.2.2.1 x.2.2.2.1 x.2.2.2.2.1 x.2.2.2.2.2.1 x.2.2.2.2.2.2.1 x.2.2.2.2.2.2.2.1 x.2.2.2.2.2.2.2.2.1 x.2.2.2.2.2.2.2.2.2.1 x.2.2.2.2.2.2.2.2.2.2.1 x.2.2.2.2.2.2.2.2.2.2.2.1 x.2.2.2.2.2.2.2.2.2.2.2.2.1 x.2.2.2.2.2.2.2.2.2.2.2.2.2) (fun x=>([eI 1 a1,eI 2 a2,eP 3 0,eP 6 1,eP 9 2,eP 13 5,eP 15 6,eP 16 7,eP 17 8,eI 18 x.1],[(0,(.live 26 [(.bool a0.M.Neg),(slK (kInt .u32) a0.M.Mag),(.int .i64 a0.E)])),(1,(.live 37 [(.bool false),(slK (kInt .u32) []),(.int .i64 0),(.bool false),(slK (kInt .u32) []),(.int .i64 0)])),(2,(.live 171 [(.int .i64 x160.1),(.int .i64 x.2.1)])),(5,(.live 37 [(.bool ((((x175.1).Lo).M).Neg)),(slK (kInt .u32) ((((x175.1).Lo).M).Mag)),(.int .i64 (((x175.1).Lo).E)),(.bool ((((x175.1).Hi).M).Neg)),(slK (kInt .u32) ((((x175.1).Hi).M).Mag)),(.int .i64 (((x175.1).Hi).E))])),(6,(.live 37 [(.bool ((((x179.1).Lo).M).Neg)),(slK (kInt .u32) ((((x179.1).Lo).M).Mag)),(.int .i64 (((x179.1).Lo).E)),(.bool ((((x179.1).Hi).M).Neg)),(slK (kInt .u32) ((((x179.1).Hi).M).Mag)),(.int .i64 (((x179.1).Hi).E))])),(7,(.live 37 [(.bool x.2.2.1),(slK (kInt .u32) x.2.2.2.1),(.int .i64 x.2.2.2.2.1),(.bool x.2.2.2.2.2.1),(slK (kInt .u32) x.2.2.2.2.2.2.1),(.int .i64 x.2.2.2.2.2.2.2.1)])),(8,(.live 37 [(.bool x.2.2.2.2.2.2.2.2.1),(slK (kInt .u32) x.2.2.2.2.2.2.2.2.2.1),(.int .i64 x.2.2.2.2.2.2.2.2.2.2.1),(.bool x.2.2.2.2.2.2.2.2.2.2.2.1),(slK (kInt .u32) x.2.2.2.2.2.2.2.2.2.2.2.2.1),(.int .i64 x.2.2.2.2.2.2.2.2.2.2.2.2.2)]))])) (1,x181.2,(((x180.1).Lo).M).Neg,(((x180.1).Lo).M).Mag,((x180.1).Lo).E,(((x180.1).Hi).M).Neg,(((x180.1).Hi).M).Mag,((x180.1).Hi).E,(((x181.1).Lo).M).Neg,(((x181.1).Lo).M).Mag,((x181.1).Lo).E,(((x181.1).Hi).M).Neg,(((x181.1).Hi).M).Mag,((x181.1).Hi).E) [(0,0),(1,1),(2,2),(5,5),(6,6),(7,7),(8,8)] rfl ?_
      rintro n5 ⟨y292,y293,y294,y295,y296,y297,y298,y299,y300,y301,y302,y303,y304,y305⟩
      try dsimp only
      rw [r11_sum_l5]
      refine .g 8 rfl<|?_
      refine .cd rfl (fun _ _=>?_) fun _ _=>?_
      ·refine .g 10 rfl<|.bind fun x310 h102=>.st rfl (cl (CC.h h102) [2] [] [true] rfl (.p rfl<|.a kI<|.a kI<|.nil) (.p rfl (.i<|.i<|.nil) .nil) fnil (.cons (.v (.i<|.i<|.nil)) .nil) (ren_agg (K:=kI) _) (.turned .nil) rfl) rfl<|.g 4 rfl<|.bind fun x311 h103=>.st rfl (cl (CC.h h103) [2] [] [true] rfl (.p rfl<|.i<|.nil) (.p rfl (.i<|.i<|.nil) .nil) fnil (.cons (.v (.i<|.i<|.nil)) .nil) (ren_agg (K:=kI) _) (.turned .nil) rfl) rfl<|.bind fun x312 h104=>.st rfl (cl (CC.h h104) [2] [] [true] rfl (.p rfl<|.a kI<|.a kI<|.nil) (.p rfl (.i<|.i<|.nil) .nil) fnil (.cons (.v (.i<|.i<|.nil)) .nil) (ren_agg (K:=kI) _) (.turned .nil) rfl) rfl<|.g 7 rfl<|.bind fun x313 h105=>.st rfl (cl (CC.h h105) [2] [] [true] rfl (.p rfl<|.a kI<|.a kI<|.nil) (.p rfl (.i<|.i<|.nil) .nil) fnil (.cons (.v (.i<|.i<|.nil)) .nil) (ren_agg (K:=kI) _) (.turned .nil) rfl) rfl<|.g 9 rfl<|.ag ((IntKind.i64.wrap (y292+1)),x313.2,(((x313.1).Lo).M).Neg,(((x313.1).Lo).M).Mag,((x313.1).Lo).E,(((x313.1).Hi).M).Neg,(((x313.1).Hi).M).Mag,((x313.1).Hi).E,(((x312.1).Lo).M).Neg,(((x312.1).Lo).M).Mag,((x312.1).Lo).E,(((x312.1).Hi).M).Neg,(((x312.1).Hi).M).Mag,((x312.1).Hi).E) [(0,0),(1,1),(2,2),(5,5),(6,6),(7,7),(8,8)] rfl
      ·refine .g 4 rfl<|.jw (h75 (y293,y294,y295,y296,y297,y298,y299,y300,y301,y302,y303,y304,y305)) [(0,0),(1,1),(2,2),(5,5),(7,7),(8,8)] rfl
  ·intro h106
   refine .cd rfl (fun _ _=>?_) fun _ _=>?_
   ·refine .g 2 rfl<|.p0 rfl rfl fun x314 _=>.g 2 rfl<|.jw (h106 (((x314).M).Neg,((x314).M).Mag,(x314).E)) [(0,0),(1,1),(2,2),(3,3)] rfl
   ·refine .g 1 rfl<|.jw (h106 (a0.M.Neg,a0.M.Mag,a0.E)) [(0,0),(1,1),(2,2),(3,3)] rfl
instance r11_Erfc_i (a0:AD) (a1:Int):PC (r11_Erfc a0 a1) Tryz.prog 39 [(.agg (kD.enc a0)),(.int .i64 a1)] (fun r=>(.tup [(.agg (kI.enc (⟨⟨(((r.1).Lo).M),((r.1).Lo).E⟩,⟨(((r.1).Hi).M),((r.1).Hi).E⟩⟩:AI))),(.int .i64 r.2)])):=pc func39 (by kernel_rfl) rfl fun E=>by
 unfold r11_Erfc
 refine .g 11 rfl<|.p0 rfl rfl fun x26 _=>.g 10 rfl<|?_
 refine .cd rfl (fun _ _=>?_) fun _ _=>?_
 ·refine .g 10 rfl<|.fi rfl rfl
 ·refine .g 6 rfl<|.bind fun x27 h4=>?_
  rcases x27 with x28 | x29
  ·dsimp only
   refine .st rfl (cl (r06_New_k_0 h4) [] [2] [true] rfl (.i<|.nil) .nil (fresh_cons rfl fnil) (.cons .dead .nil) .nilptr (.turned .nil) rfl) rfl<|.g 7 rfl<|.p0 rfl rfl fun x30 _=>.g 14 rfl<|?_
   refine .cd rfl (fun _ _=>?_) fun _ _=>?_
   ·refine .g 10 rfl<|.fi rfl rfl
   ·refine .g 13 rfl<|.ln rfl rfl<|.g 3 rfl<|?_
    refine .cut (fun x:Bool × (List Int) × Int × Bool × (List Int) × Int=>(r11_Erfc_j1 x.1 x.2.1 x.2.2.1 x.2.2.2.1 x.2.2.2.2.1 x.2.2.2.2.2,[eI 1 a1,eP 4 1,(7,some .nilptr),eP 10 3],[(1,(.live 37 [(.bool false),(slK (kInt .u32) []),(.int .i64 0),(.bool false),(slK (kInt .u32) []),(.int .i64 0)])),(3,(.live 37 [(.bool x.1),(slK (kInt .u32) x.2.1),(.int .i64 x.2.2.1),(.bool x.2.2.2.1),(slK (kInt .u32) x.2.2.2.2.1),(.int .i64 x.2.2.2.2.2)]))])) ?_ ?_
    ·rintro ⟨y32,y33,y34,y35,y36,y37⟩
     dsimp only [r11_Erfc_j1]
     refine .g 6 rfl<|.no
    ·intro h13
     refine .cd rfl (fun _ _=>?_) fun _ _=>?_
     ·refine .g 7 rfl<|.p0 rfl rfl fun x38 _=>.g 13 rfl<|?_
      refine .cd rfl (fun _ _=>?_) fun _ _=>?_
      ·refine .g 10 rfl<|.fi rfl rfl
      ·refine .g 1 rfl<|.jw (h13 ((((x38.1).Lo).M).Neg,(((x38.1).Lo).M).Mag,((x38.1).Lo).E,(((x38.1).Hi).M).Neg,(((x38.1).Hi).M).Mag,((x38.1).Hi).E)) [(1,1),(3,3)] rfl
     ·refine .g 1 rfl<|.jw (h13 (false,[],0,false,[],0)) [(1,1),(3,3)] rfl
  ·dsimp only
   refine .st rfl (cl (r06_New_k_1 h4) [] [2] [true] rfl (.i<|.nil) .nil (fresh_cons rfl fnil) (.cons (.v (.i<|.i<|.nil)) .nil) (.ptr _ _ _ rfl) (.turned .nil) rfl) rfl<|.g 7 rfl<|.p0 rfl rfl fun x39 _=>.g 14 rfl<|?_
   refine .cd rfl (fun _ _=>?_) fun _ _=>?_
   ·refine .g 10 rfl<|.fi rfl rfl
   ·refine .g 13 rfl<|.ln rfl rfl<|.g 3 rfl<|?_
    refine .cut (fun x:Bool × (List Int) × Int × Bool × (List Int) × Int=>(r11_Erfc_j2 x29 a1 x.1 x.2.1 x.2.2.1 x.2.2.2.1 x.2.2.2.2.1 x.2.2.2.2.2,[eI 1 a1,eP 4 1,eP 7 2,eP 10 3],[(1,(.live 37 [(.bool false),(slK (kInt .u32) []),(.int .i64 0),(.bool false),(slK (kInt .u32) []),(.int .i64 0)])),(2,(.live 171 [(.int .i64 x29.1),(.int .i64 x29.2)])),(3,(.live 37 [(.bool x.1),(slK (kInt .u32) x.2.1),(.int .i64 x.2.2.1),(.bool x.2.2.2.1),(slK (kInt .u32) x.2.2.2.2.1),(.int .i64 x.2.2.2.2.2)]))])) ?_ ?_
    ·rintro ⟨y41,y42,y43,y44,y45,y46⟩
     dsimp only [r11_Erfc_j2]
     refine .g 6 rfl<|.bind fun x47 h27=>.st rfl (cl (CC.h h27) [2] [] [true] rfl (.p rfl<|.i<|.nil) (.p rfl (.i<|.i<|.nil) .nil) fnil (.cons (.v (.i<|.i<|.nil)) .nil) (ren_agg (K:=kI) _) (.turned .nil) rfl) rfl<|.g 1 rfl<|.bind fun x48 h28=>.st rfl (cl (CC.h h28) [2] [] [true] rfl (.p rfl<|.a kI<|.a kI<|.nil) (.p rfl (.i<|.i<|.nil) .nil) fnil (.cons (.v (.i<|.i<|.nil)) .nil) (ren_agg (K:=kI) _) (.turned .nil) rfl) rfl<|.g 1 rfl<|.bind fun x49 h29=>.st rfl (cl (CC.h h29) [2] [] [false] rfl (.p rfl<|.a kI<|.i<|.nil) (.p rfl (.i<|.i<|.nil) .nil) fnil (.cons (.v (.i<|.i<|.nil)) .nil) (ren_tupL (.a kI<|.i<|.nil)) (.kept rfl .nil) rfl) rfl<|.g 4 rfl<|.dn (by kernel_rfl)<|.g 2 rfl<|.fi rfl rfl
    ·intro h30
     refine .cd rfl (fun _ _=>?_) fun _ _=>?_
     ·refine .g 7 rfl<|.p0 rfl rfl fun x50 _=>.g 13 rfl<|?_
      refine .cd rfl (fun _ _=>?_) fun _ _=>?_
      ·refine .g 10 rfl<|.fi rfl rfl
      ·refine .g 1 rfl<|.jw (h30 ((((x50.1).Lo).M).Neg,(((x50.1).Lo).M).Mag,((x50.1).Lo).E,(((x50.1).Hi).M).Neg,(((x50.1).Hi).M).Mag,((x50.1).Hi).E)) [(1,1),(2,2),(3,3)] rfl
     ·refine .g 1 rfl<|.jw (h30 (false,[],0,false,[],0)) [(1,1),(2,2),(3,3)] rfl
instance r11_Erf_i (a0:AD) (a1:Int):PC (r11_Erf a0 a1) Tryz.prog 41 [(.agg (kD.enc a0)),(.int .i64 a1)] (fun r=>(.tup [(.agg (kI.enc (⟨⟨(((r.1).Lo).M),((r.1).Lo).E⟩,⟨(((r.1).Hi).M),((r.1).Hi).E⟩⟩:AI))),(.int .i64 r.2)])):=pc func41 (by kernel_rfl) rfl fun E=>by
 unfold r11_Erf
 refine .g 11 rfl<|.p0 rfl rfl fun x3 _=>.g 14 rfl<|?_
 refine .cd rfl (fun _ _=>?_) fun _ _=>?_
 ·refine .g 10 rfl<|.fi rfl rfl
 ·refine .g 8 rfl<|.ln rfl rfl<|.g 3 rfl<|?_
  refine .cd rfl (fun _ _=>?_) fun _ _=>?_
  ·refine .g 9 rfl<|.fi rfl rfl
  ·refine .g 7 rfl<|.p0 rfl rfl fun x4 _=>.g 7 rfl<|.fi rfl rfl
instance l11_ErffTold_i (a0:AD) (a1:Int) (a2:Bool):PC (l11_ErffTold a0 a1 a2) Tryz.prog 5 [(.agg (kD.enc a0)),(.int .i64 a1),(.bool a2)] (fun r=>(.bool r)):=pc func5 (by kernel_rfl) rfl fun E=>by
 unfold l11_ErffTold
 refine .g 8 rfl<|.p0 rfl rfl fun x15 _=>.g 10 rfl<|?_
 refine .cd rfl (fun _ _=>?_) fun _ _=>?_
 ·refine .g 7 rfl<|.fi rfl rfl
 ·refine .g 5 rfl<|.p0 rfl rfl fun x16 _=>.g 5 rfl<|?_
  refine .cut (fun x:Bool=>(l11_ErffTold_j1 x16 a2 x15 a1 x,[eI 1 a1,eB 2 a2,eP 3 0,eB 7 x15,eB 32 x],[(0,(.live 26 [(.bool (((x16).M).Neg)),(slK (kInt .u32) (((x16).M).Mag)),(.int .i64 ((x16).E))]))])) ?_ ?_
  ·rintro y17
   dsimp only [l11_ErffTold_j1]
   refine .g 1 rfl<|?_
   refine .cut (fun x:Int=>(l11_ErffTold_j2 x16 a2 x15 x,[eI 1 x,eB 2 a2,eP 3 0,eB 7 x15],[(0,(.live 26 [(.bool (((x16).M).Neg)),(slK (kInt .u32) (((x16).M).Mag)),(.int .i64 ((x16).E))]))])) ?_ ?_
   ·rintro y18
    dsimp only [l11_ErffTold_j2]
    refine .g 5 rfl<|.p0 rfl rfl fun x19 _=>.g 11 rfl<|.p0 rfl rfl fun x20 _=>.g 13 rfl<|?_
    refine .cd rfl (fun _ _=>?_) fun _ _=>?_
    ·refine .g 4 rfl<|.p0 rfl rfl fun x21 _=>.g 12 rfl<|.p0 rfl rfl fun x22 _=>.g 12 rfl<|.p0 rfl rfl fun x23 _=>.g 4 rfl<|?_
     refine .cut (fun x:Bool=>(l11_ErffTold_j3 x,[eB 6 x],[])) ?_ ?_
     ·rintro y24
      dsimp only [l11_ErffTold_j3]
      refine .g 3 rfl<|.fi rfl rfl
     ·intro h19
      refine .g 3 rfl<|?_
      refine .gd 62 rfl (fun _=>?_) fun _=>?_
      ·refine .g 3 rfl<|?_
       refine .gd 65 rfl (fun _=>?_) fun _=>?_
       ·refine .g 5 rfl<|?_
        refine .gd 70 rfl (fun _=>?_) fun _=>?_
        ·refine .g 5 rfl<|?_
         refine .gd 75 rfl (fun _=>?_) fun _=>?_
         ·refine .g 6 rfl<|.jw (h19 (x19.2 == x20.2)) [] rfl
         ·refine .g 6 rfl<|.jw (h19 false) [] rfl
        ·refine .g 11 rfl<|.jw (h19 false) [] rfl
       ·refine .g 16 rfl<|.jw (h19 false) [] rfl
      ·refine .g 19 rfl<|.jw (h19 false) [] rfl
    ·refine .g 6 rfl<|.p0 rfl rfl fun x25 _=>.g 12 rfl<|.p0 rfl rfl fun x26 _=>.g 12 rfl<|.p0 rfl rfl fun x27 _=>.g 4 rfl<|?_
     refine .cut (fun x:Bool=>(l11_ErffTold_j4 x,[eB 6 x],[])) ?_ ?_
     ·rintro y28
      dsimp only [l11_ErffTold_j4]
      refine .g 2 rfl<|.fi rfl rfl
     ·intro h31
      refine .g 3 rfl<|?_
      refine .gd 96 rfl (fun _=>?_) fun _=>?_
      ·refine .g 3 rfl<|?_
       refine .gd 99 rfl (fun _=>?_) fun _=>?_
       ·refine .g 5 rfl<|?_
        refine .gd 104 rfl (fun _=>?_) fun _=>?_
        ·refine .g 5 rfl<|?_
         refine .gd 109 rfl (fun _=>?_) fun _=>?_
         ·refine .g 6 rfl<|.jw (h31 (x19.2 == x20.2)) [] rfl
         ·refine .g 6 rfl<|.jw (h31 false) [] rfl
        ·refine .g 11 rfl<|.jw (h31 false) [] rfl
       ·refine .g 16 rfl<|.jw (h31 false) [] rfl
      ·refine .g 19 rfl<|.jw (h31 false) [] rfl
   ·intro h36
    refine .cd rfl (fun _ _=>?_) fun _ _=>?_
    ·refine .g 3 rfl<|.jw (h36 64) [(0,0)] rfl
    ·refine .g 1 rfl<|.jw (h36 a1) [(0,0)] rfl
  ·intro h39
   refine .g 4 rfl<|?_
   refine .gd 29 rfl (fun _=>?_) fun _=>?_
   ·refine .g 4 rfl<|.jw (h39 (decide (a1≤200))) [(0,0)] rfl
   ·refine .g 4 rfl<|.jw (h39 false) [(0,0)] rfl
end Go.Proofs.YtjffljhmjdljeaaGreat.Gen
