/- Printed by geng.py: a call does what the plain function says. -/
import Derived.Test.YtjfcghliglfapabGreatTrigAtanGenP6
set_option maxRecDepth 4000
namespace Go.Proofs.YtjfcghliglfapabGreat.Gen
open Go Go.Abs Go.Proofs Go.Proofs.Tryz
instance r10_Atan_i (a0:AD) (a1:Int):PC (r10_Atan a0 a1) Tryz.prog 36 [(.agg (kD.enc a0)),(.int .i64 a1)] (fun r=>(.tup [(.agg (kI.enc (⟨⟨(((r.1).Lo).M),((r.1).Lo).E⟩,⟨(((r.1).Hi).M),((r.1).Hi).E⟩⟩:AI))),(.int .i64 r.2)])):=pc func36 (by kernel_rfl) rfl fun E=>by
 unfold r10_Atan
 refine .g 12 rfl<|.p0 rfl rfl fun x178 _=>.g 3 rfl<|?_
 refine .cd rfl (fun _ _=>?_) fun _ _=>?_
 ·refine .g 9 rfl<|.fi rfl rfl
 ·refine .g 6 rfl<|.bind fun x179 h4=>?_
  rcases x179 with x180 | x181
  ·dsimp only
   refine .st rfl (cl (r06_New_k_0 h4) [] [2] [true] rfl (.i<|.nil) .nil (fresh_cons rfl fnil) (.cons .dead .nil) .nilptr (.turned .nil) rfl) rfl<|.g 18 rfl<|?_
   refine .cut (fun x:Bool × (List Int) × Int=>(r10_Atan_j1 x.1 x.2.1 x.2.2,[eI 1 a1,eP 2 0,eP 4 1,(6,some .nilptr),eP 7 3],[(0,(.live 26 [(.bool a0.M.Neg),(slK (kInt .u32) a0.M.Mag),(.int .i64 a0.E)])),(1,(.live 37 [(.bool false),(slK (kInt .u32) []),(.int .i64 0),(.bool false),(slK (kInt .u32) []),(.int .i64 0)])),(3,(.live 26 [(.bool x.1),(slK (kInt .u32) x.2.1),(.int .i64 x.2.2)]))])) ?_ ?_
   ·rintro ⟨y183,y184,y185⟩
    dsimp only [r10_Atan_j1]
    refine .g 5 rfl<|.no
   ·intro h8
    refine .cd rfl (fun _ _=>?_) fun _ _=>?_
    ·refine .g 2 rfl<|.p0 rfl rfl fun x186 _=>.g 2 rfl<|.jw (h8 (((x186).M).Neg,((x186).M).Mag,(x186).E)) [(0,0),(1,1),(3,3)] rfl
    ·refine .g 1 rfl<|.jw (h8 (a0.M.Neg,a0.M.Mag,a0.E)) [(0,0),(1,1),(3,3)] rfl
  ·dsimp only
   refine .st rfl (cl (r06_New_k_1 h4) [] [2] [true] rfl (.i<|.nil) .nil (fresh_cons rfl fnil) (.cons (.v (.i<|.i<|.nil)) .nil) (.ptr _ _ _ rfl) (.turned .nil) rfl) rfl<|.g 18 rfl<|?_
   refine .cut (fun x:Bool × (List Int) × Int=>(r10_Atan_j2 x181 a0 a1 x.1 x.2.1 x.2.2,[eI 1 a1,eP 2 0,eP 4 1,eP 6 2,eP 7 3],[(0,(.live 26 [(.bool a0.M.Neg),(slK (kInt .u32) a0.M.Mag),(.int .i64 a0.E)])),(1,(.live 37 [(.bool false),(slK (kInt .u32) []),(.int .i64 0),(.bool false),(slK (kInt .u32) []),(.int .i64 0)])),(2,(.live 162 [(.int .i64 x181.1),(.int .i64 x181.2)])),(3,(.live 26 [(.bool x.1),(slK (kInt .u32) x.2.1),(.int .i64 x.2.2)]))])) ?_ ?_
   ·rintro ⟨y188,y189,y190⟩
    dsimp only [r10_Atan_j2]
    refine .g 5 rfl<|.bind fun x191 h15=>.st rfl (cl (CC.h h15) [2] [] [true] rfl (.p rfl<|.a kD<|.nil) (.p rfl (.i<|.i<|.nil) .nil) fnil (.cons (.v (.i<|.i<|.nil)) .nil) (ren_agg (K:=kI) _) (.turned .nil) rfl) rfl<|.g 7 rfl<|.p0 rfl rfl fun x192 _=>.p0 rfl rfl fun x193 _=>.g 2 rfl<|.dn (by kernel_rfl)<|.g 7 rfl<|?_
    refine .cut (fun x:Bool × Int × Bool × (List Int) × Int × Bool × (List Int) × Int=>(r10_Atan_j3 x181 a0 a1 x.1 x.2.1 x.2.2.1 x.2.2.2.1 x.2.2.2.2.1 x.2.2.2.2.2.1 x.2.2.2.2.2.2.1 x.2.2.2.2.2.2.2,[eI 1 a1,eP 2 0,eP 4 1,eP 6 2,eP 8 4,eB 9 x.1],[(0,(.live 26 [(.bool a0.M.Neg),(slK (kInt .u32) a0.M.Mag),(.int .i64 a0.E)])),(1,(.live 37 [(.bool false),(slK (kInt .u32) []),(.int .i64 0),(.bool false),(slK (kInt .u32) []),(.int .i64 0)])),(2,(.live 162 [(.int .i64 x181.1),(.int .i64 x.2.1)])),(4,(.live 37 [(.bool x.2.2.1),(slK (kInt .u32) x.2.2.2.1),(.int .i64 x.2.2.2.2.1),(.bool x.2.2.2.2.2.1),(slK (kInt .u32) x.2.2.2.2.2.2.1),(.int .i64 x.2.2.2.2.2.2.2)]))])) ?_ ?_
    ·rintro ⟨y196,y197,y198,y199,y200,y201,y202,y203⟩
     dsimp only [r10_Atan_j3]
     refine .g 7 rfl<|?_
     refine .cut (fun x:Int × Bool × (List Int) × Int × Bool × (List Int) × Int=>(r10_Atan_j4 x181 y196 a0 a1 x.1 x.2.1 x.2.2.1 x.2.2.2.1 x.2.2.2.2.1 x.2.2.2.2.2.1 x.2.2.2.2.2.2,[eI 1 a1,eP 2 0,eP 4 1,eP 6 2,eP 8 4,eB 9 y196],[(0,(.live 26 [(.bool a0.M.Neg),(slK (kInt .u32) a0.M.Mag),(.int .i64 a0.E)])),(1,(.live 37 [(.bool false),(slK (kInt .u32) []),(.int .i64 0),(.bool false),(slK (kInt .u32) []),(.int .i64 0)])),(2,(.live 162 [(.int .i64 x181.1),(.int .i64 x.1)])),(4,(.live 37 [(.bool x.2.1),(slK (kInt .u32) x.2.2.1),(.int .i64 x.2.2.2.1),(.bool x.2.2.2.2.1),(slK (kInt .u32) x.2.2.2.2.2.1),(.int .i64 x.2.2.2.2.2.2)]))])) ?_ ?_
     ·rintro ⟨y262,y263,y264,y265,y266,y267,y268⟩
      dsimp only [r10_Atan_j4]
      refine .g 6 rfl<|.bind fun x269 h68=>.st rfl (cl (CC.h h68) [2] [] [true] rfl (.p rfl<|.a kI<|.nil) (.p rfl (.i<|.i<|.nil) .nil) fnil (.cons (.v (.i<|.i<|.nil)) .nil) (ren_agg (K:=kI) _) (.turned .nil) rfl) rfl<|.bind fun x270 h69=>.st rfl (cl (CC.h h69) [2] [] [true] rfl (.p rfl<|.a kI<|.i<|.nil) (.p rfl (.i<|.i<|.nil) .nil) fnil (.cons (.v (.i<|.i<|.nil)) .nil) (ren_agg (K:=kI) _) (.turned .nil) rfl) rfl<|.g 10 rfl<|?_
      refine .cut (fun x:Int × Bool × (List Int) × Int × Bool × (List Int) × Int=>(r10_Atan_j5 a0 x181 a1 x.1 x.2.1 x.2.2.1 x.2.2.2.1 x.2.2.2.2.1 x.2.2.2.2.2.1 x.2.2.2.2.2.2,[eI 1 a1,eP 2 0,eP 4 1,eP 6 2,eP 11 3],[(0,(.live 26 [(.bool a0.M.Neg),(slK (kInt .u32) a0.M.Mag),(.int .i64 a0.E)])),(1,(.live 37 [(.bool false),(slK (kInt .u32) []),(.int .i64 0),(.bool false),(slK (kInt .u32) []),(.int .i64 0)])),(2,(.live 162 [(.int .i64 x181.1),(.int .i64 x.1)])),(3,(.live 37 [(.bool x.2.1),(slK (kInt .u32) x.2.2.1),(.int .i64 x.2.2.2.1),(.bool x.2.2.2.2.1),(slK (kInt .u32) x.2.2.2.2.2.1),(.int .i64 x.2.2.2.2.2.2)]))])) ?_ ?_
      ·rintro ⟨y274,y275,y276,y277,y278,y279,y280⟩
       dsimp only [r10_Atan_j5]
       refine .g 9 rfl<|?_
       refine .cut (fun x:Int × Bool × (List Int) × Int × Bool × (List Int) × Int=>(r10_Atan_j6 a1 x181 x.1 x.2.1 x.2.2.1 x.2.2.2.1 x.2.2.2.2.1 x.2.2.2.2.2.1 x.2.2.2.2.2.2,[eI 1 a1,eP 4 1,eP 6 2,eP 11 3],[(1,(.live 37 [(.bool false),(slK (kInt .u32) []),(.int .i64 0),(.bool false),(slK (kInt .u32) []),(.int .i64 0)])),(2,(.live 162 [(.int .i64 x181.1),(.int .i64 x.1)])),(3,(.live 37 [(.bool x.2.1),(slK (kInt .u32) x.2.2.1),(.int .i64 x.2.2.2.1),(.bool x.2.2.2.2.1),(slK (kInt .u32) x.2.2.2.2.2.1),(.int .i64 x.2.2.2.2.2.2)]))])) ?_ ?_
       ·rintro ⟨y282,y283,y284,y285,y286,y287,y288⟩
        dsimp only [r10_Atan_j6]
        refine .g 6 rfl<|.bind fun x289 h78=>.st rfl (cl (CC.h h78) [2] [] [false] rfl (.p rfl<|.a kI<|.i<|.nil) (.p rfl (.i<|.i<|.nil) .nil) fnil (.cons (.v (.i<|.i<|.nil)) .nil) (ren_tupL (.a kI<|.i<|.nil)) (.kept rfl .nil) rfl) rfl<|.g 7 rfl<|.fi rfl rfl
       ·intro h79
        refine .cd rfl (fun _ _=>?_) fun _ _=>?_
        ·refine .g 3 rfl<|.bind fun x290 h82=>.st rfl (cl (CC.h h82) [2] [] [true] rfl (.p rfl<|.a kI<|.nil) (.p rfl (.i<|.i<|.nil) .nil) fnil (.cons (.v (.i<|.i<|.nil)) .nil) (ren_agg (K:=kI) _) (.turned .nil) rfl) rfl<|.g 2 rfl<|.jw (h79 (x290.2,(((x290.1).Lo).M).Neg,(((x290.1).Lo).M).Mag,((x290.1).Lo).E,(((x290.1).Hi).M).Neg,(((x290.1).Hi).M).Mag,((x290.1).Hi).E)) [(1,1),(2,2),(3,3)] rfl
        ·refine .g 1 rfl<|.jw (h79 (y274,y275,y276,y277,y278,y279,y280)) [(1,1),(2,2),(3,3)] rfl
      ·intro h83
       refine .cd rfl (fun _ _=>?_) fun _ _=>?_
       ·refine .g 4 rfl<|.bind fun x291 h86=>.st rfl (cl (CC.h h86) [2] [] [true] rfl (.p rfl<|.nil) (.p rfl (.i<|.i<|.nil) .nil) fnil (.cons (.v (.i<|.i<|.nil)) .nil) (ren_agg (K:=kI) _) (.turned .nil) rfl) rfl<|.bind fun x292 h87=>.st rfl (cl (CC.h h87) [2] [] [true] rfl (.p rfl<|.a kI<|.i<|.nil) (.p rfl (.i<|.i<|.nil) .nil) fnil (.cons (.v (.i<|.i<|.nil)) .nil) (ren_agg (K:=kI) _) (.turned .nil) rfl) rfl<|.g 1 rfl<|.bind fun x293 h88=>.st rfl (cl (CC.h h88) [2] [] [true] rfl (.p rfl<|.a kI<|.a kI<|.nil) (.p rfl (.i<|.i<|.nil) .nil) fnil (.cons (.v (.i<|.i<|.nil)) .nil) (ren_agg (K:=kI) _) (.turned .nil) rfl) rfl<|.g 1 rfl<|.dn (by kernel_rfl)<|.jw (h83 (x293.2,(((x293.1).Lo).M).Neg,(((x293.1).Lo).M).Mag,((x293.1).Lo).E,(((x293.1).Hi).M).Neg,(((x293.1).Hi).M).Mag,((x293.1).Hi).E)) [(0,0),(1,1),(2,2),(3,3)] rfl
       ·refine .g 1 rfl<|.jw (h83 (x270.2,(((x270.1).Lo).M).Neg,(((x270.1).Lo).M).Mag,((x270.1).Lo).E,(((x270.1).Hi).M).Neg,(((x270.1).Hi).M).Mag,((x270.1).Hi).E)) [(0,0),(1,1),(2,2),(3,3)] rfl
     ·intro h89
      refine .g 1 rfl<|?_
      refine .lp (fun n (x:Int × Int × Bool × (List Int) × Int × Bool × (List Int) × Int)=>r10_Atan_l7 x181 y196 a0 a1 n x.1 x.2.1 x.2.2.1 x.2.2.2.1 x.2.2.2.2.1 x.2.2.2.2.2.1 x.2.2.2.2.2.2.1 x.2.2.2.2.2.2.2) (fun x=>([eI 1 a1,eP 2 0,eP 4 1,eP 6 2,eP 8 4,eB 9 y196,eI 10 x.1],[(0,(.live 26 [(.bool a0.M.Neg),(slK (kInt .u32) a0.M.Mag),(.int .i64 a0.E)])),(1,(.live 37 [(.bool false),(slK (kInt .u32) []),(.int .i64 0),(.bool false),(slK (kInt .u32) []),(.int .i64 0)])),(2,(.live 162 [(.int .i64 x181.1),(.int .i64 x.2.1)])),(4,(.live 37 [(.bool x.2.2.1),(slK (kInt .u32) x.2.2.2.1),(.int .i64 x.2.2.2.2.1),(.bool x.2.2.2.2.2.1),(slK (kInt .u32) x.2.2.2.2.2.2.1),(.int .i64 x.2.2.2.2.2.2.2)]))])) (0,y197,y198,y199,y200,y201,y202,y203) [(0,0),(1,1),(2,2),(4,4)] rfl ?_
      rintro n7 ⟨y330,y331,y332,y333,y334,y335,y336,y337⟩
      try dsimp only
      rw [r10_Atan_l7]
      refine .g 7 rfl<|?_
      refine .cd rfl (fun _ _=>?_) fun _ _=>?_
      ·refine .g 9 rfl<|.bind fun x345 h129=>.st rfl (cl (CC.h h129) [2] [] [true] rfl (.p rfl<|.i<|.nil) (.p rfl (.i<|.i<|.nil) .nil) fnil (.cons (.v (.i<|.i<|.nil)) .nil) (ren_agg (K:=kI) _) (.turned .nil) rfl) rfl<|.g 3 rfl<|.bind fun x346 h130=>.st rfl (cl (CC.h h130) [2] [] [true] rfl (.p rfl<|.i<|.nil) (.p rfl (.i<|.i<|.nil) .nil) fnil (.cons (.v (.i<|.i<|.nil)) .nil) (ren_agg (K:=kI) _) (.turned .nil) rfl) rfl<|.g 3 rfl<|.bind fun x347 h131=>.st rfl (cl (CC.h h131) [2] [] [true] rfl (.p rfl<|.a kI<|.a kI<|.nil) (.p rfl (.i<|.i<|.nil) .nil) fnil (.cons (.v (.i<|.i<|.nil)) .nil) (ren_agg (K:=kI) _) (.turned .nil) rfl) rfl<|.bind fun x348 h132=>.st rfl (cl (CC.h h132) [2] [] [true] rfl (.p rfl<|.a kI<|.a kI<|.nil) (.p rfl (.i<|.i<|.nil) .nil) fnil (.cons (.v (.i<|.i<|.nil)) .nil) (ren_agg (K:=kI) _) (.turned .nil) rfl) rfl<|.bind fun x349 h133=>.st rfl (cl (CC.h h133) [2] [] [true] rfl (.p rfl<|.a kI<|.nil) (.p rfl (.i<|.i<|.nil) .nil) fnil (.cons (.v (.i<|.i<|.nil)) .nil) (ren_agg (K:=kI) _) (.turned .nil) rfl) rfl<|.bind fun x350 h134=>?_
       refine .st rfl (cl (CC.h h134) [2] [] [true] rfl (.p rfl<|.a kI<|.a kI<|.nil) (.p rfl (.i<|.i<|.nil) .nil) fnil (.cons (.v (.i<|.i<|.nil)) .nil) (ren_agg (K:=kI) _) (.turned .nil) rfl) rfl<|.bind fun x351 h135=>.st rfl (cl (CC.h h135) [2] [] [true] rfl (.p rfl<|.a kI<|.a kI<|.nil) (.p rfl (.i<|.i<|.nil) .nil) fnil (.cons (.v (.i<|.i<|.nil)) .nil) (ren_agg (K:=kI) _) (.turned .nil) rfl) rfl<|.g 1 rfl<|.dn (by kernel_rfl)<|.g 7 rfl<|.ag ((IntKind.i64.wrap (y330+1)),x351.2,(((x351.1).Lo).M).Neg,(((x351.1).Lo).M).Mag,((x351.1).Lo).E,(((x351.1).Hi).M).Neg,(((x351.1).Hi).M).Mag,((x351.1).Hi).E) [(0,0),(1,1),(2,2),(4,4)] rfl
      ·refine .g 4 rfl<|.jw (h89 (y331,y332,y333,y334,y335,y336,y337)) [(0,0),(1,1),(2,2),(4,4)] rfl
    ·intro h136
     refine .cd rfl (fun h137 _=>?_) fun h137 _=>?_
     ·refine .kn 9 true rfl h137<|.g 3 rfl<|.bind fun x352 h139=>.st rfl (cl (CC.h h139) [2] [] [true] rfl (.p rfl<|.i<|.nil) (.p rfl (.i<|.i<|.nil) .nil) fnil (.cons (.v (.i<|.i<|.nil)) .nil) (ren_agg (K:=kI) _) (.turned .nil) rfl) rfl<|.g 1 rfl<|.bind fun x353 h140=>.st rfl (cl (CC.h h140) [2] [] [true] rfl (.p rfl<|.a kI<|.a kI<|.nil) (.p rfl (.i<|.i<|.nil) .nil) fnil (.cons (.v (.i<|.i<|.nil)) .nil) (ren_agg (K:=kI) _) (.turned .nil) rfl) rfl<|.g 1 rfl<|.dn (by kernel_rfl)<|.jw (h136 (true,x353.2,(((x353.1).Lo).M).Neg,(((x353.1).Lo).M).Mag,((x353.1).Lo).E,(((x353.1).Hi).M).Neg,(((x353.1).Hi).M).Mag,((x353.1).Hi).E)) [(0,0),(1,1),(2,2),(4,4)] rfl
     ·refine .kn 9 false rfl h137<|.g 1 rfl<|.jw (h136 (false,x191.2,(((x191.1).Lo).M).Neg,(((x191.1).Lo).M).Mag,((x191.1).Lo).E,(((x191.1).Hi).M).Neg,(((x191.1).Hi).M).Mag,((x191.1).Hi).E)) [(0,0),(1,1),(2,2),(4,4)] rfl
   ·intro h141
    refine .cd rfl (fun _ _=>?_) fun _ _=>?_
    ·refine .g 2 rfl<|.p0 rfl rfl fun x354 _=>.g 2 rfl<|.jw (h141 (((x354).M).Neg,((x354).M).Mag,(x354).E)) [(0,0),(1,1),(2,2),(3,3)] rfl
    ·refine .g 1 rfl<|.jw (h141 (a0.M.Neg,a0.M.Mag,a0.E)) [(0,0),(1,1),(2,2),(3,3)] rfl
instance r04_Same_i (a0:ApiInt) (a1:ApiInt):PC (r04_Same a0 a1) Tryz.prog 249 [(.agg (kN.enc a0)),(.agg (kN.enc a1))] (fun r=>(.bool r)):=pc func249 (by kernel_rfl) rfl fun E=>by
 unfold r04_Same
 refine .g 9 rfl<|?_
 refine .cut (fun x:Bool=>(r04_Same_j1 a0 a1 x,[eP 2 0,eP 3 1,eB 19 x],[(0,(.live 24 [(.bool a0.Neg),(slK (kInt .u32) a0.Mag)])),(1,(.live 24 [(.bool a1.Neg),(slK (kInt .u32) a1.Mag)]))])) ?_ ?_
 ·rintro y6
  dsimp only [r04_Same_j1]
  refine .g 1 rfl<|?_
  refine .cd rfl (fun _ _=>?_) fun _ _=>?_
  ·refine .g 7 rfl<|.fi rfl rfl
  ·refine .g 8 rfl<|?_
   refine .cut (fun x:Unit=>(r04_Same_j2,[],[])) ?_ ?_
   ·rintro _
    dsimp only [r04_Same_j2]
    refine .g 7 rfl<|.fi rfl rfl
   ·intro h34
    refine .g 1 rfl<|?_
    refine .lp (fun n (x:Int)=>r04_Same_l3 a0 a1 n x) (fun x=>([eP 2 0,eP 3 1,eI 5 x],[(0,(.live 24 [(.bool a0.Neg),(slK (kInt .u32) a0.Mag)])),(1,(.live 24 [(.bool a1.Neg),(slK (kInt .u32) a1.Mag)]))])) 0 [(0,0),(1,1)] rfl ?_
    rintro n3 y10
    try dsimp only
    rw [r04_Same_l3]
    refine .g 6 rfl<|.ln rfl rfl<|.g 3 rfl<|?_
    refine .cd rfl (fun _ _=>?_) fun _ _=>?_
    ·refine .g 9 rfl<|.ix rfl rfl<|.g 4 rfl<|.ix rfl rfl<|.g 2 rfl<|.dn (by kernel_rfl)<|.g 1 rfl<|?_
     refine .cd rfl (fun _ _=>?_) fun _ _=>?_
     ·refine .g 11 rfl<|.fi rfl rfl
     ·refine .g 8 rfl<|.ag (IntKind.i64.wrap (y10+1)) [(0,0),(1,1)] rfl
    ·refine .g 4 rfl<|.jw (h34 ()) [] rfl
 ·intro h65
  refine .g 7 rfl<|?_
  refine .gd 11 rfl (fun _=>?_) fun _=>?_
  ·refine .g 9 rfl<|.jw (h65 true) [(0,0),(1,1)] rfl
  ·refine .g 2 rfl<|.ln rfl rfl<|.g 2 rfl<|.ln rfl rfl<|.g 3 rfl<|.jw (h65 ((a0.Mag.length:Int) != (a1.Mag.length:Int))) [(0,0),(1,1)] rfl
instance r05_Same_i (a0:AD) (a1:AD):PC (r05_Same a0 a1) Tryz.prog 194 [(.agg (kD.enc a0)),(.agg (kD.enc a1))] (fun r=>(.bool r)):=pc func194 (by kernel_rfl) rfl fun E=>by
 unfold r05_Same
 refine .g 8 rfl<|?_
 refine .cut (fun x:Bool=>(r05_Same_j1 x,[eB 4 x],[])) ?_ ?_
 ·rintro y5
  dsimp only [r05_Same_j1]
  refine .g 2 rfl<|.fi rfl rfl
 ·intro h3
  refine .g 7 rfl<|?_
  refine .gd 10 rfl (fun _=>?_) fun _=>?_
  ·refine .g 4 rfl<|.p0 rfl rfl fun x6 _=>.g 3 rfl<|.jw (h3 x6) [] rfl
  ·refine .g 8 rfl<|.jw (h3 false) [] rfl
instance r06_Same_i (a0:AI) (a1:AI):PC (r06_Same a0 a1) Tryz.prog 120 [(.agg (kI.enc a0)),(.agg (kI.enc a1))] (fun r=>(.bool r)):=pc func120 (by kernel_rfl) rfl fun E=>by
 unfold r06_Same
 refine .g 8 rfl<|?_
 refine .cut (fun x:Bool=>(r06_Same_j1 x,[eB 4 x],[])) ?_ ?_
 ·rintro y8
  dsimp only [r06_Same_j1]
  refine .g 2 rfl<|.fi rfl rfl
 ·intro h4
  refine .g 5 rfl<|.p0 rfl rfl fun x9 _=>.g 1 rfl<|?_
  refine .gd 10 rfl (fun _=>?_) fun _=>?_
  ·refine .g 4 rfl<|.p0 rfl rfl fun x10 _=>.g 3 rfl<|.jw (h4 x10) [] rfl
  ·refine .g 8 rfl<|.jw (h4 false) [] rfl
instance l10_same_i (a0:AI) (a1:AI):PC (l10_same a0 a1) Tryz.prog 37 [(.agg (kI.enc a0)),(.agg (kI.enc a1))] (fun r=>(.bool r)):=pc func37 (by kernel_rfl) rfl fun E=>by
 unfold l10_same
 refine .g 11 rfl<|.p0 rfl rfl fun x2 _=>.g 4 rfl<|.fi rfl rfl
instance l10_TrigAtan_i (a0:AD) (a1:Int):PC (l10_TrigAtan a0 a1) Tryz.prog 5 [(.agg (kD.enc a0)),(.int .i64 a1)] (fun r=>(.bool r)):=pc func5 (by kernel_rfl) rfl fun E=>by
 unfold l10_TrigAtan
 refine .g 8 rfl<|.p0 rfl rfl fun x7 _=>.g 10 rfl<|?_
 refine .cd rfl (fun _ _=>?_) fun _ _=>?_
 ·refine .g 7 rfl<|.fi rfl rfl
 ·refine .g 5 rfl<|.p0 rfl rfl fun x8 _=>.g 14 rfl<|.p0 rfl rfl fun x9 _=>.g 12 rfl<|.p0 rfl rfl fun x10 _=>.g 12 rfl<|.p0 rfl rfl fun x11 _=>.g 4 rfl<|?_
  refine .cut (fun x:Bool=>(l10_TrigAtan_j1 x,[eB 4 x],[])) ?_ ?_
  ·rintro y12
   dsimp only [l10_TrigAtan_j1]
   refine .g 2 rfl<|.fi rfl rfl
  ·intro h10
   refine .g 3 rfl<|?_
   refine .gd 34 rfl (fun _=>?_) fun _=>?_
   ·refine .g 3 rfl<|?_
    refine .gd 37 rfl (fun _=>?_) fun _=>?_
    ·refine .g 6 rfl<|.jw (h10 (x9.2 == x10.2)) [] rfl
    ·refine .g 6 rfl<|.jw (h10 false) [] rfl
   ·refine .g 9 rfl<|.jw (h10 false) [] rfl
end Go.Proofs.YtjfcghliglfapabGreat.Gen
