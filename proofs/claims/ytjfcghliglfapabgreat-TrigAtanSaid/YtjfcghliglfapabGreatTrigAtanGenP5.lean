/- Printed by geng.py: a call does what the plain function says. -/
import Derived.Test.YtjfcghliglfapabGreatTrigAtanGenP4
set_option maxRecDepth 4000
namespace Go.Proofs.YtjfcghliglfapabGreat.Gen
open Go Go.Abs Go.Proofs Go.Proofs.Tryz
instance trig_Atan_i (a0:AD) (a1:Int):PC (trig_Atan a0 a1) Tryz.prog 35 [(.agg (kD.enc a0)),(.int .i64 a1)] (fun r=>(.tup [(.agg (kI.enc (⟨⟨(((r.1).Lo).M),((r.1).Lo).E⟩,⟨(((r.1).Hi).M),((r.1).Hi).E⟩⟩:AI))),(.int .i64 r.2)])):=pc func35 (by kernel_rfl) rfl fun E=>by
 unfold trig_Atan
 refine .g 12 rfl<|.p0 rfl rfl fun x168 _=>.g 3 rfl<|?_
 refine .cd rfl (fun _ _=>?_) fun _ _=>?_
 ·refine .g 9 rfl<|.fi rfl rfl
 ·refine .g 6 rfl<|.bind fun x169 h4=>?_
  rcases x169 with x170 | x171
  ·dsimp only
   refine .st rfl (cl (iv_New_k_0 h4) [] [2] [true] rfl (.i<|.nil) .nil (fresh_cons rfl fnil) (.cons .dead .nil) (ren_tupL (.cons .nilptr<|.i<|.nil)) (.turned .nil) rfl) rfl<|.g 25 rfl<|.no
  ·dsimp only
   refine .st rfl (cl (iv_New_k_1 h4) [] [2] [true] rfl (.i<|.nil) .nil (fresh_cons rfl fnil) (.cons (.v (.i<|.i<|.nil)) .nil) (ren_tupL (.p rfl<|.i<|.nil)) (.turned .nil) rfl) rfl<|.g 25 rfl<|.bind fun x172 h5=>.st rfl (cl (CC.h h5) [2] [] [true] rfl (.p rfl<|.a kD<|.nil) (.p rfl (.i<|.i<|.nil) .nil) fnil (.cons (.v (.i<|.i<|.nil)) .nil) (ren_agg (K:=kI) _) (.turned .nil) rfl) rfl<|.g 7 rfl<|.p0 rfl rfl fun x173 _=>.p0 rfl rfl fun x174 _=>.g 2 rfl<|.dn (by kernel_rfl)<|.g 7 rfl<|?_
   refine .cut (fun x:Bool × Int × Bool × (List Int) × Int × Bool × (List Int) × Int=>(trig_Atan_j1 x171 a0 a1 x.1 x.2.1 x.2.2.1 x.2.2.2.1 x.2.2.2.2.1 x.2.2.2.2.2.1 x.2.2.2.2.2.2.1 x.2.2.2.2.2.2.2,[eI 1 a1,eP 2 0,eP 4 1,eP 6 2,eP 9 4,eB 10 x.1],[(0,(.live 26 [(.bool a0.M.Neg),(slK (kInt .u32) a0.M.Mag),(.int .i64 a0.E)])),(1,(.live 37 [(.bool false),(slK (kInt .u32) []),(.int .i64 0),(.bool false),(slK (kInt .u32) []),(.int .i64 0)])),(2,(.live 47 [(.int .i64 x.2.1),(.int .i64 x171.2.2)])),(4,(.live 37 [(.bool x.2.2.1),(slK (kInt .u32) x.2.2.2.1),(.int .i64 x.2.2.2.2.1),(.bool x.2.2.2.2.2.1),(slK (kInt .u32) x.2.2.2.2.2.2.1),(.int .i64 x.2.2.2.2.2.2.2)]))])) ?_ ?_
   ·rintro ⟨y177,y178,y179,y180,y181,y182,y183,y184⟩
    dsimp only [trig_Atan_j1]
    refine .g 7 rfl<|?_
    refine .cut (fun x:Int × Bool × (List Int) × Int × Bool × (List Int) × Int=>(trig_Atan_j2 x171 y177 a0 a1 x.1 x.2.1 x.2.2.1 x.2.2.2.1 x.2.2.2.2.1 x.2.2.2.2.2.1 x.2.2.2.2.2.2,[eI 1 a1,eP 2 0,eP 4 1,eP 6 2,eP 9 4,eB 10 y177],[(0,(.live 26 [(.bool a0.M.Neg),(slK (kInt .u32) a0.M.Mag),(.int .i64 a0.E)])),(1,(.live 37 [(.bool false),(slK (kInt .u32) []),(.int .i64 0),(.bool false),(slK (kInt .u32) []),(.int .i64 0)])),(2,(.live 47 [(.int .i64 x.1),(.int .i64 x171.2.2)])),(4,(.live 37 [(.bool x.2.1),(slK (kInt .u32) x.2.2.1),(.int .i64 x.2.2.2.1),(.bool x.2.2.2.2.1),(slK (kInt .u32) x.2.2.2.2.2.1),(.int .i64 x.2.2.2.2.2.2)]))])) ?_ ?_
    ·rintro ⟨y243,y244,y245,y246,y247,y248,y249⟩
     dsimp only [trig_Atan_j2]
     refine .g 6 rfl<|.bind fun x250 h58=>.st rfl (cl (CC.h h58) [2] [] [true] rfl (.p rfl<|.a kI<|.nil) (.p rfl (.i<|.i<|.nil) .nil) fnil (.cons (.v (.i<|.i<|.nil)) .nil) (ren_agg (K:=kI) _) (.turned .nil) rfl) rfl<|.bind fun x251 h59=>.st rfl (cl (CC.h h59) [2] [] [true] rfl (.p rfl<|.a kI<|.i<|.nil) (.p rfl (.i<|.i<|.nil) .nil) fnil (.cons (.v (.i<|.i<|.nil)) .nil) (ren_agg (K:=kI) _) (.turned .nil) rfl) rfl<|.g 10 rfl<|?_
     refine .cut (fun x:Int × Bool × (List Int) × Int × Bool × (List Int) × Int=>(trig_Atan_j3 a0 x171 a1 x.1 x.2.1 x.2.2.1 x.2.2.2.1 x.2.2.2.2.1 x.2.2.2.2.2.1 x.2.2.2.2.2.2,[eI 1 a1,eP 2 0,eP 4 1,eP 6 2,eP 11 3],[(0,(.live 26 [(.bool a0.M.Neg),(slK (kInt .u32) a0.M.Mag),(.int .i64 a0.E)])),(1,(.live 37 [(.bool false),(slK (kInt .u32) []),(.int .i64 0),(.bool false),(slK (kInt .u32) []),(.int .i64 0)])),(2,(.live 47 [(.int .i64 x.1),(.int .i64 x171.2.2)])),(3,(.live 37 [(.bool x.2.1),(slK (kInt .u32) x.2.2.1),(.int .i64 x.2.2.2.1),(.bool x.2.2.2.2.1),(slK (kInt .u32) x.2.2.2.2.2.1),(.int .i64 x.2.2.2.2.2.2)]))])) ?_ ?_
     ·rintro ⟨y255,y256,y257,y258,y259,y260,y261⟩
      dsimp only [trig_Atan_j3]
      refine .g 9 rfl<|?_
      refine .cut (fun x:Int × Bool × (List Int) × Int × Bool × (List Int) × Int=>(trig_Atan_j4 a1 x171 x.1 x.2.1 x.2.2.1 x.2.2.2.1 x.2.2.2.2.1 x.2.2.2.2.2.1 x.2.2.2.2.2.2,[eI 1 a1,eP 4 1,eP 6 2,eP 11 3],[(1,(.live 37 [(.bool false),(slK (kInt .u32) []),(.int .i64 0),(.bool false),(slK (kInt .u32) []),(.int .i64 0)])),(2,(.live 47 [(.int .i64 x.1),(.int .i64 x171.2.2)])),(3,(.live 37 [(.bool x.2.1),(slK (kInt .u32) x.2.2.1),(.int .i64 x.2.2.2.1),(.bool x.2.2.2.2.1),(slK (kInt .u32) x.2.2.2.2.2.1),(.int .i64 x.2.2.2.2.2.2)]))])) ?_ ?_
      ·rintro ⟨y263,y264,y265,y266,y267,y268,y269⟩
       dsimp only [trig_Atan_j4]
       refine .g 6 rfl<|.bind fun x270 h68=>.st rfl (cl (CC.h h68) [2] [] [false] rfl (.p rfl<|.a kI<|.i<|.nil) (.p rfl (.i<|.i<|.nil) .nil) fnil (.cons (.v (.i<|.i<|.nil)) .nil) (ren_tupL (.a kI<|.i<|.nil)) (.kept rfl .nil) rfl) rfl<|.g 7 rfl<|.fi rfl rfl
      ·intro h69
       refine .cd rfl (fun _ _=>?_) fun _ _=>?_
       ·refine .g 3 rfl<|.bind fun x271 h72=>.st rfl (cl (CC.h h72) [2] [] [true] rfl (.p rfl<|.a kI<|.nil) (.p rfl (.i<|.i<|.nil) .nil) fnil (.cons (.v (.i<|.i<|.nil)) .nil) (ren_agg (K:=kI) _) (.turned .nil) rfl) rfl<|.g 2 rfl<|.jw (h69 (x271.2,(((x271.1).Lo).M).Neg,(((x271.1).Lo).M).Mag,((x271.1).Lo).E,(((x271.1).Hi).M).Neg,(((x271.1).Hi).M).Mag,((x271.1).Hi).E)) [(1,1),(2,2),(3,3)] rfl
       ·refine .g 1 rfl<|.jw (h69 (y255,y256,y257,y258,y259,y260,y261)) [(1,1),(2,2),(3,3)] rfl
     ·intro h73
      refine .cd rfl (fun _ _=>?_) fun _ _=>?_
      ·refine .g 4 rfl<|.bind fun x272 h76=>.st rfl (cl (CC.h h76) [2] [] [true] rfl (.p rfl<|.nil) (.p rfl (.i<|.i<|.nil) .nil) fnil (.cons (.v (.i<|.i<|.nil)) .nil) (ren_agg (K:=kI) _) (.turned .nil) rfl) rfl<|.bind fun x273 h77=>.st rfl (cl (CC.h h77) [2] [] [true] rfl (.p rfl<|.a kI<|.i<|.nil) (.p rfl (.i<|.i<|.nil) .nil) fnil (.cons (.v (.i<|.i<|.nil)) .nil) (ren_agg (K:=kI) _) (.turned .nil) rfl) rfl<|.g 1 rfl<|.bind fun x274 h78=>.st rfl (cl (CC.h h78) [2] [] [true] rfl (.p rfl<|.a kI<|.a kI<|.nil) (.p rfl (.i<|.i<|.nil) .nil) fnil (.cons (.v (.i<|.i<|.nil)) .nil) (ren_agg (K:=kI) _) (.turned .nil) rfl) rfl<|.g 1 rfl<|.dn (by kernel_rfl)<|.jw (h73 (x274.2,(((x274.1).Lo).M).Neg,(((x274.1).Lo).M).Mag,((x274.1).Lo).E,(((x274.1).Hi).M).Neg,(((x274.1).Hi).M).Mag,((x274.1).Hi).E)) [(0,0),(1,1),(2,2),(3,3)] rfl
      ·refine .g 1 rfl<|.jw (h73 (x251.2,(((x251.1).Lo).M).Neg,(((x251.1).Lo).M).Mag,((x251.1).Lo).E,(((x251.1).Hi).M).Neg,(((x251.1).Hi).M).Mag,((x251.1).Hi).E)) [(0,0),(1,1),(2,2),(3,3)] rfl
    ·intro h79
     refine .g 1 rfl<|?_
     refine .lp (fun n (x:Int × Int × Bool × (List Int) × Int × Bool × (List Int) × Int)=>trig_Atan_l5 x171 y177 a0 a1 n x.1 x.2.1 x.2.2.1 x.2.2.2.1 x.2.2.2.2.1 x.2.2.2.2.2.1 x.2.2.2.2.2.2.1 x.2.2.2.2.2.2.2) (fun x=>([eI 1 a1,eP 2 0,eP 4 1,eP 6 2,eP 9 4,eB 10 y177,eI 39 x.1],[(0,(.live 26 [(.bool a0.M.Neg),(slK (kInt .u32) a0.M.Mag),(.int .i64 a0.E)])),(1,(.live 37 [(.bool false),(slK (kInt .u32) []),(.int .i64 0),(.bool false),(slK (kInt .u32) []),(.int .i64 0)])),(2,(.live 47 [(.int .i64 x.2.1),(.int .i64 x171.2.2)])),(4,(.live 37 [(.bool x.2.2.1),(slK (kInt .u32) x.2.2.2.1),(.int .i64 x.2.2.2.2.1),(.bool x.2.2.2.2.2.1),(slK (kInt .u32) x.2.2.2.2.2.2.1),(.int .i64 x.2.2.2.2.2.2.2)]))])) (0,y178,y179,y180,y181,y182,y183,y184) [(0,0),(1,1),(2,2),(4,4)] rfl ?_
     rintro n5 ⟨y311,y312,y313,y314,y315,y316,y317,y318⟩
     try dsimp only
     rw [trig_Atan_l5]
     refine .g 6 rfl<|?_
     refine .cd rfl (fun _ _=>?_) fun _ _=>?_
     ·refine .g 9 rfl<|.bind fun x326 h119=>.st rfl (cl (CC.h h119) [2] [] [true] rfl (.p rfl<|.i<|.nil) (.p rfl (.i<|.i<|.nil) .nil) fnil (.cons (.v (.i<|.i<|.nil)) .nil) (ren_agg (K:=kI) _) (.turned .nil) rfl) rfl<|.g 3 rfl<|.bind fun x327 h120=>.st rfl (cl (CC.h h120) [2] [] [true] rfl (.p rfl<|.i<|.nil) (.p rfl (.i<|.i<|.nil) .nil) fnil (.cons (.v (.i<|.i<|.nil)) .nil) (ren_agg (K:=kI) _) (.turned .nil) rfl) rfl<|.g 3 rfl<|.bind fun x328 h121=>.st rfl (cl (CC.h h121) [2] [] [true] rfl (.p rfl<|.a kI<|.a kI<|.nil) (.p rfl (.i<|.i<|.nil) .nil) fnil (.cons (.v (.i<|.i<|.nil)) .nil) (ren_agg (K:=kI) _) (.turned .nil) rfl) rfl<|.bind fun x329 h122=>.st rfl (cl (CC.h h122) [2] [] [true] rfl (.p rfl<|.a kI<|.a kI<|.nil) (.p rfl (.i<|.i<|.nil) .nil) fnil (.cons (.v (.i<|.i<|.nil)) .nil) (ren_agg (K:=kI) _) (.turned .nil) rfl) rfl<|.bind fun x330 h123=>.st rfl (cl (CC.h h123) [2] [] [true] rfl (.p rfl<|.a kI<|.nil) (.p rfl (.i<|.i<|.nil) .nil) fnil (.cons (.v (.i<|.i<|.nil)) .nil) (ren_agg (K:=kI) _) (.turned .nil) rfl) rfl<|.bind fun x331 h124=>?_
      refine .st rfl (cl (CC.h h124) [2] [] [true] rfl (.p rfl<|.a kI<|.a kI<|.nil) (.p rfl (.i<|.i<|.nil) .nil) fnil (.cons (.v (.i<|.i<|.nil)) .nil) (ren_agg (K:=kI) _) (.turned .nil) rfl) rfl<|.bind fun x332 h125=>.st rfl (cl (CC.h h125) [2] [] [true] rfl (.p rfl<|.a kI<|.a kI<|.nil) (.p rfl (.i<|.i<|.nil) .nil) fnil (.cons (.v (.i<|.i<|.nil)) .nil) (ren_agg (K:=kI) _) (.turned .nil) rfl) rfl<|.g 1 rfl<|.dn (by kernel_rfl)<|.g 6 rfl<|.ag ((IntKind.i64.wrap (y311+1)),x332.2,(((x332.1).Lo).M).Neg,(((x332.1).Lo).M).Mag,((x332.1).Lo).E,(((x332.1).Hi).M).Neg,(((x332.1).Hi).M).Mag,((x332.1).Hi).E) [(0,0),(1,1),(2,2),(4,4)] rfl
     ·refine .g 4 rfl<|.jw (h79 (y312,y313,y314,y315,y316,y317,y318)) [(0,0),(1,1),(2,2),(4,4)] rfl
   ·intro h126
    refine .cd rfl (fun h127 _=>?_) fun h127 _=>?_
    ·refine .kn 10 true rfl h127<|.g 3 rfl<|.bind fun x333 h129=>.st rfl (cl (CC.h h129) [2] [] [true] rfl (.p rfl<|.i<|.nil) (.p rfl (.i<|.i<|.nil) .nil) fnil (.cons (.v (.i<|.i<|.nil)) .nil) (ren_agg (K:=kI) _) (.turned .nil) rfl) rfl<|.g 1 rfl<|.bind fun x334 h130=>.st rfl (cl (CC.h h130) [2] [] [true] rfl (.p rfl<|.a kI<|.a kI<|.nil) (.p rfl (.i<|.i<|.nil) .nil) fnil (.cons (.v (.i<|.i<|.nil)) .nil) (ren_agg (K:=kI) _) (.turned .nil) rfl) rfl<|.g 1 rfl<|.dn (by kernel_rfl)<|.jw (h126 (true,x334.2,(((x334.1).Lo).M).Neg,(((x334.1).Lo).M).Mag,((x334.1).Lo).E,(((x334.1).Hi).M).Neg,(((x334.1).Hi).M).Mag,((x334.1).Hi).E)) [(0,0),(1,1),(2,2),(4,4)] rfl
    ·refine .kn 10 false rfl h127<|.g 1 rfl<|.jw (h126 (false,x172.2,(((x172.1).Lo).M).Neg,(((x172.1).Lo).M).Mag,((x172.1).Lo).E,(((x172.1).Hi).M).Neg,(((x172.1).Hi).M).Mag,((x172.1).Hi).E)) [(0,0),(1,1),(2,2),(4,4)] rfl
instance r09_Fits_i (a0:AD) (a1:Int):PC (r09_Fits a0 a1) Tryz.prog 104 [(.agg (kD.enc a0)),(.int .i64 a1)] (fun r=>(.bool r)):=pc func104 (by kernel_rfl) rfl fun E=>by
 unfold r09_Fits
 refine .g 9 rfl<|.p0 rfl rfl fun x5 _=>.g 4 rfl<|?_
 refine .cut (fun x:Bool=>(r09_Fits_j1 x,[eB 4 x],[])) ?_ ?_
 ·rintro y7
  dsimp only [r09_Fits_j1]
  refine .g 2 rfl<|.fi rfl rfl
 ·intro h6
  refine .g 3 rfl<|?_
  refine .gd 9 rfl (fun _=>?_) fun _=>?_
  ·refine .g 4 rfl<|?_
   refine .gd 13 rfl (fun _=>?_) fun _=>?_
   ·refine .g 4 rfl<|?_
    refine .gd 17 rfl (fun _=>?_) fun _=>?_
    ·refine .g 3 rfl<|.p0 rfl rfl fun x8 _=>.g 4 rfl<|.jw (h6 (decide (x8≤400))) [] rfl
    ·refine .g 8 rfl<|.jw (h6 false) [] rfl
   ·refine .g 12 rfl<|.jw (h6 false) [] rfl
  ·refine .g 16 rfl<|.jw (h6 false) [] rfl
instance r06_New_i (a0:Int):CC (r06_New a0) Tryz.prog 105 [(.int .i64 a0)] [] (fun r=>(match r with | (Sum.inl y)=>.nilptr | (Sum.inr y)=>(.ptr 0 0))) (fun r=>(match r with | (Sum.inl y)=>[.dead] | (Sum.inr y)=>[(.live 162 [(.int .i64 y.1),(.int .i64 y.2)])])):=cc func105 (by kernel_rfl) rfl fun E=>by
 unfold r06_New
 refine .g 7 rfl<|?_
 refine .cut (fun x:Bool=>(r06_New_j1 a0 x,[eI 0 a0,eB 8 x],[])) ?_ ?_
 ·rintro y2
  dsimp only [r06_New_j1]
  refine .g 1 rfl<|?_
  refine .cd rfl (fun _ _=>?_) fun _ _=>?_
  ·refine .g 7 rfl<|.fi rfl rfl
  ·refine .g 11 rfl<|.fi rfl rfl
 ·intro h4
  refine .g 4 rfl<|?_
  refine .gd 5 rfl (fun _=>?_) fun _=>?_
  ·refine .g 4 rfl<|.jw (h4 true) [] rfl
  ·refine .g 4 rfl<|.jw (h4 (decide (a0>400))) [] rfl
theorem r06_New_k_0 {a0:Int} {r:Unit} (h:r06_New a0=some (Sum.inl r)):Cal Tryz.prog 105 [(.int .i64 a0)] [] .nilptr [.dead]:=CC.h h
theorem r06_New_k_1 {a0:Int} {r:Int × Int} (h:r06_New a0=some (Sum.inr r)):Cal Tryz.prog 105 [(.int .i64 a0)] [] (.ptr 0 0) [(.live 162 [(.int .i64 r.1),(.int .i64 r.2)])]:=CC.h h
instance r04_Neg_i (a0:ApiInt):PC (r04_Neg a0) Tryz.prog 176 [(.agg (kN.enc a0))] (fun r=>(.agg (kN.enc (r)))):=pc func176 (by kernel_rfl) rfl fun E=>by
 unfold r04_Neg
 refine .g 13 rfl<|.p0 rfl rfl fun x2 _=>.g 4 rfl<|.fi rfl rfl
instance r05_Neg_i (a0:AD):PC (r05_Neg a0) Tryz.prog 106 [(.agg (kD.enc a0))] (fun r=>(.agg (kD.enc (⟨((r).M),(r).E⟩:AD)))):=pc func106 (by kernel_rfl) rfl fun E=>by
 unfold r05_Neg
 refine .g 9 rfl<|.p0 rfl rfl fun x3 _=>.g 10 rfl<|?_
 refine .cd rfl (fun _ _=>?_) fun _ _=>?_
 ·refine .g 8 rfl<|.fi rfl rfl
 ·refine .g 6 rfl<|.p0 rfl rfl fun x4 _=>.g 4 rfl<|.dn (by kernel_rfl)<|.g 2 rfl<|.fi rfl rfl
instance r06_Cerr_i (a0:Int) (a1:Int) (a2:Int):CC (r06_Cerr a0 a1 a2) Tryz.prog 181 [(.ptr 0 0),(.int .i64 a0)] [(.live 162 [(.int .i64 a1),(.int .i64 a2)])] (fun r=>(.bool r.1)) (fun r=>[(.live 162 [(.int .i64 a1),(.int .i64 r.2)])]):=cc func181 (by kernel_rfl) rfl fun E=>by
 unfold r06_Cerr
 refine .g 15 rfl<|?_
 refine .cut (fun x:Int=>(r06_Cerr_j1 x,[eP 0 0],[(0,(.live 162 [(.int .i64 a1),(.int .i64 x)]))])) ?_ ?_
 ·rintro y2
  dsimp only [r06_Cerr_j1]
  refine .g 12 rfl<|.fi rfl rfl
 ·intro h3
  refine .cd rfl (fun _ _=>?_) fun _ _=>?_
  ·refine .g 7 rfl<|.jw (h3 a0) [(0,0)] rfl
  ·refine .g 1 rfl<|.jw (h3 a2) [(0,0)] rfl
instance r06_Carg_i (a0:List AI) (a1:Int) (a2:Int):CC (r06_Carg a0 a1 a2) Tryz.prog 177 [(.ptr 0 0),(slK kI a0)] [(.live 162 [(.int .i64 a1),(.int .i64 a2)])] (fun r=>(.bool r.1)) (fun r=>[(.live 162 [(.int .i64 a1),(.int .i64 r.2)])]):=cc func177 (by kernel_rfl) rfl fun E=>by
 unfold r06_Carg
 refine .g 11 rfl<|?_
 refine .cut (fun x:Unit=>(r06_Carg_j1 a2,[eP 0 0],[(0,(.live 162 [(.int .i64 a1),(.int .i64 a2)]))])) ?_ ?_
 ·rintro _
  dsimp only [r06_Carg_j1]
  refine .g 12 rfl<|.fi rfl rfl
 ·intro h37
  refine .g 1 rfl<|?_
  refine .lp (fun n (x:Int)=>r06_Carg_l2 a0 a1 a2 n x) (fun x=>([eP 0 0,eK kI 1 a0,eI 5 x],[(0,(.live 162 [(.int .i64 a1),(.int .i64 a2)]))])) 0 [(0,0)] rfl ?_
  rintro n2 y52
  try dsimp only
  rw [r06_Carg_l2]
  refine .g 5 rfl<|.ln rfl rfl<|.g 3 rfl<|?_
  refine .cd rfl (fun _ _=>?_) fun _ _=>?_
  ·refine .g 8 rfl<|.ix rfl rfl<|.g 1 rfl<|.p0 rfl rfl fun x55 _=>.g 9 rfl<|?_
   refine .cd rfl (fun _ _=>?_) fun _ _=>?_
   ·refine .g 3 rfl<|.bind fun x56 h73=>.st rfl (cl (CC.h h73) [0] [] [true] rfl (.p rfl<|.i<|.nil) (.p rfl (.i<|.i<|.nil) .nil) fnil (.cons (.v (.i<|.i<|.nil)) .nil) (.bool _) (.turned .nil) rfl) rfl<|.g 9 rfl<|.fi rfl rfl
   ·refine .g 8 rfl<|.ag (IntKind.i64.wrap (y52+1)) [(0,0)] rfl
  ·refine .g 4 rfl<|.jw (h37 ()) [(0,0)] rfl
instance r06_CPoint_i (a0:AD) (a1:Int) (a2:Int):CC (r06_CPoint a0 a1 a2) Tryz.prog 107 [(.ptr 0 0),(.agg (kD.enc a0))] [(.live 162 [(.int .i64 a1),(.int .i64 a2)])] (fun r=>(.agg (kI.enc (⟨⟨(((r.1).Lo).M),((r.1).Lo).E⟩,⟨(((r.1).Hi).M),((r.1).Hi).E⟩⟩:AI)))) (fun r=>[(.live 162 [(.int .i64 a1),(.int .i64 r.2)])]):=cc func107 (by kernel_rfl) rfl fun E=>by
 unfold r06_CPoint
 refine .g 13 rfl<|.st rfl (bs kI [(⟨a0,a0⟩:AI)] rfl rfl) rfl<|.bind fun x2 h1=>.st rfl (cl (CC.h h1) [0] [] [true] rfl (.p rfl<|.l<|.nil) (.p rfl (.i<|.i<|.nil) .nil) fnil (.cons (.v (.i<|.i<|.nil)) .nil) (.bool _) (.turned .nil) rfl) rfl<|.g 3 rfl<|?_
 refine .cd rfl (fun _ _=>?_) fun _ _=>?_
 ·refine .g 8 rfl<|.fi rfl rfl
 ·refine .g 11 rfl<|.fi rfl rfl
instance r06_CInt_i (a0:Int) (a1:Int) (a2:Int):CC (r06_CInt a0 a1 a2) Tryz.prog 110 [(.ptr 0 0),(.int .i64 a0)] [(.live 162 [(.int .i64 a1),(.int .i64 a2)])] (fun r=>(.agg (kI.enc (⟨⟨(((r.1).Lo).M),((r.1).Lo).E⟩,⟨(((r.1).Hi).M),((r.1).Hi).E⟩⟩:AI)))) (fun r=>[(.live 162 [(.int .i64 a1),(.int .i64 r.2)])]):=cc func110 (by kernel_rfl) rfl fun E=>by
 unfold r06_CInt
 refine .g 9 rfl<|.p0 rfl rfl fun x3 _=>.bind fun x4 h2=>.st rfl (cl (CC.h h2) [0] [] [true] rfl (.p rfl<|.a kD<|.nil) (.p rfl (.i<|.i<|.nil) .nil) fnil (.cons (.v (.i<|.i<|.nil)) .nil) (ren_agg (K:=kI) _) (.turned .nil) rfl) rfl<|.g 4 rfl<|.fi rfl rfl
instance r05_prec_i (a0:Int):PC (r05_prec a0) Tryz.prog 241 [(.int .i64 a0)] (fun r=>(.bool r)):=pc func241 (by kernel_rfl) rfl fun E=>by
 unfold r05_prec
 refine .g 6 rfl<|?_
 refine .cut (fun x:Bool=>(r05_prec_j1 x,[eB 2 x],[])) ?_ ?_
 ·rintro y2
  dsimp only [r05_prec_j1]
  refine .g 2 rfl<|.fi rfl rfl
 ·intro h2
  refine .g 4 rfl<|?_
  refine .gd 5 rfl (fun _=>?_) fun _=>?_
  ·refine .g 5 rfl<|.jw (h2 (decide (a0≤400))) [] rfl
  ·refine .g 5 rfl<|.jw (h2 false) [] rfl
instance r05_upMag_i (a0:List Int) (a1:Int):PC (r05_upMag a0 a1) Tryz.prog 242 [(slK (kInt .u32) a0),(.int .i64 a1)] (fun r=>(slK (kInt .u32) r)):=pc func242 (by kernel_rfl) rfl fun E=>by
 unfold r05_upMag
 refine .g 2 rfl<|.st rfl (as0 rfl) rfl<|.g 7 rfl<|.p0 rfl rfl fun x2 _=>.sv (slK (kInt .u32) ((x2).Mag)) [] rfl (snd_field_sca _ _ _ _ _ _ _ _ rfl underlying24 rfl rfl rfl sc22 rfl rfl rfl (Nat.le_of_ble_eq_true rfl)) rfl<|.g 4 rfl<|.fi rfl rfl
instance r03_short_i (a0:List Int) (a1:Int):PC (r03_short a0 a1) Tryz.prog 269 [(slK (kInt .u32) a0),(.int .u64 a1)] (fun r=>(.tup [(slK (kInt .u32) r.1),(slK (kInt .u32) r.2)])):=pc func269 (by kernel_rfl) rfl fun E=>by
 unfold r03_short
 refine .g 2 rfl<|.st rfl (as0 rfl) rfl<|.st rfl (as0 rfl) rfl<|.g 5 rfl<|.ln rfl rfl<|.guard fun h1=>.sv (.row 0 (kInt .u32).sz 0 (((List.replicate a0.length (kInt .u32).z)).length)) [(0,(rwK (kInt .u32) 130 (List.replicate a0.length (kInt .u32).z)))] rfl (snd_makeK (kInt .u32) _ _ _ _ _ 0 _ _ _ rfl underlying22 ze130 sb130 (by decide) rfl rfl rfl rfl rfl h1) rfl<|.g 12 rfl<|.ln rfl rfl<|.g 4 rfl<|?_
 refine .cut (fun x:Int × (List Int)=>(r03_short_j1 x.1 x.2,[(6,some (.row 0 (kInt .u32).sz 0 ((x.2).length))),eX 7 x.1],[(0,(rwK (kInt .u32) 130 x.2))])) ?_ ?_
 ·rintro ⟨y23,y24⟩
  dsimp only [r03_short_j1]
  refine .g 2 rfl<|?_
  refine .weak ?_ (fun a w h=>Conc.freezeK (kInt .u32) h 6 0 0 ((y24).length) 130 y24 rfl rfl (by omega))
  refine .weak ?_ (fun a w h=>take_all h)
  refine .g 2 rfl<|.p0 rfl rfl fun x25 _=>.g 1 rfl<|.p0 rfl rfl fun x26 _=>.g 5 rfl<|.fi rfl rfl
 ·intro h34
  refine .g 1 rfl<|?_
  refine .lp (fun n (x:Int × Int × (List Int))=>r03_short_l2 a0 a1 n x.1 x.2.1 x.2.2) (fun x=>([eL 0 a0,eX 1 a1,(6,some (.row 0 (kInt .u32).sz 0 ((x.2.2).length))),eX 7 x.1,eI 8 x.2.1],[(0,(rwK (kInt .u32) 130 x.2.2))])) (0,(IntKind.i64.wrap ((a0.length:Int)-1)),(List.replicate a0.length (kInt .u32).z)) [(0,0)] rfl ?_
  rintro n2 ⟨y30,y31,y32⟩
  try dsimp only
  rw [r03_short_l2]
  refine .g 7 rfl<|?_
  refine .cd rfl (fun _ _=>?_) fun _ _=>?_
  ·refine .g 10 rfl<|.ix rfl rfl<|.g 12 rfl<|.guard fun h62=>.st rfl (snd_quo _ _ _ _ _ _ _ rfl rfl rfl rfl rfl h62) rfl<|.g 1 rfl<|.guard fun h63=>?_
   obtain ⟨h631,h632⟩:=h63
   refine .sv (.rptr 0 (kInt .u32).sz y31.toNat 0) [] rfl (idx_r (snd_index_r _ _ _ _ _ 0 0 ((y32).length) _ y31 rfl underlying22 si130 rfl rfl rfl rfl h631 (by omega)) (Nat.zero_add _)) rfl<|.sm [(0,(rwK (kInt .u32) 130 ((y32).set y31.toNat (IntKind.u32.wrap (IntKind.u64.wrap ((orI .u64 (shlI .u64 y30 32) (IntKind.u64.wrap (a0.getD y31.toNat (kInt .u32).z))).tdiv a1))))))] rfl (snd_storeK_sca (kInt .u32) _ _ _ 0 y31.toNat _ _ (IntKind.u32.wrap (IntKind.u64.wrap ((orI .u64 (shlI .u64 y30 32) (IntKind.u64.wrap (a0.getD y31.toNat (kInt .u32).z))).tdiv a1))) _ rfl rfl rfl sc130 rfl rfl rfl rfl rfl rfl (by first | omega | (simp only [List.length_set]; omega))) rfl<|?_
   refine .weak ?_ (fun a w h=>Conc.relen h 6 ((((y32).set y31.toNat (IntKind.u32.wrap (IntKind.u64.wrap ((orI .u64 (shlI .u64 y30 32) (IntKind.u64.wrap (a0.getD y31.toNat (kInt .u32).z))).tdiv a1))))).length) rfl List.length_set.symm)
   refine .g 5 rfl<|.guard fun h64=>.st rfl (snd_rem _ _ _ _ _ _ _ rfl rfl rfl rfl rfl h64) rfl<|.g 9 rfl<|.ag (((orI .u64 (shlI .u64 y30 32) (IntKind.u64.wrap (a0.getD y31.toNat (kInt .u32).z))).tmod a1),(IntKind.i64.wrap (y31-1)),((y32).set y31.toNat (IntKind.u32.wrap (IntKind.u64.wrap ((orI .u64 (shlI .u64 y30 32) (IntKind.u64.wrap (a0.getD y31.toNat (kInt .u32).z))).tdiv a1))))) [(0,0)] rfl
  ·refine .g 4 rfl<|.jw (h34 (y30,y32)) [(0,0)] rfl
instance r03_guess_i (a0:List Int) (a1:List Int):PC (r03_guess a0 a1) Tryz.prog 270 [(slK (kInt .u32) a0),(slK (kInt .u32) a1)] (fun r=>(.int .u64 r)):=pc func270 (by kernel_rfl) rfl fun E=>by
 unfold r03_guess
 refine .g 8 rfl<|.ln rfl rfl<|.g 7 rfl<|.ln rfl rfl<|.g 4 rfl<|?_
 refine .cd rfl (fun _ _=>?_) fun _ _=>?_
 ·refine .g 7 rfl<|.fi rfl rfl
 ·refine .g 7 rfl<|.ix rfl rfl<|.g 9 rfl<|.ln rfl rfl<|.g 4 rfl<|?_
  refine .cut (fun x:Int=>(r03_guess_j1 a1 x,[eL 1 a1,eI 5 (a1.length:Int),eX 6 x],[])) ?_ ?_
  ·rintro y2
   dsimp only [r03_guess_j1]
   refine .g 7 rfl<|.ix rfl rfl<|.g 2 rfl<|.guard fun h8=>.st rfl (snd_quo _ _ _ _ _ _ _ rfl rfl rfl rfl rfl h8) rfl<|.g 5 rfl<|.fi rfl rfl
  ·intro h9
   refine .cd rfl (fun _ _=>?_) fun _ _=>?_
   ·refine .g 4 rfl<|.ix rfl rfl<|.g 6 rfl<|.jw (h9 (orI .u64 (IntKind.u64.wrap (a0.getD ((IntKind.i64.wrap ((a1.length:Int)-1)).toNat) (kInt .u32).z)) (shlI .u64 (IntKind.u64.wrap (a0.getD a1.length (kInt .u32).z)) 32))) [] rfl
   ·refine .g 1 rfl<|.jw (h9 (IntKind.u64.wrap (a0.getD ((IntKind.i64.wrap ((a1.length:Int)-1)).toNat) (kInt .u32).z))) [] rfl
instance r01_Mul_i (a0:List Int) (a1:List Int):PC (r01_Mul a0 a1) Tryz.prog 254 [(slK (kInt .u32) a0),(slK (kInt .u32) a1)] (fun r=>(slK (kInt .u32) r)):=pc func254 (by kernel_rfl) rfl fun E=>by
 unfold r01_Mul
 refine .g 2 rfl<|.st rfl (as0 rfl) rfl<|.g 5 rfl<|.ln rfl rfl<|.g 1 rfl<|.ln rfl rfl<|.g 1 rfl<|.guard fun h1=>.sv (.row 0 (kInt .u32).sz 0 (((List.replicate ((IntKind.i64.wrap ((a0.length:Int)+(a1.length:Int))).toNat) (kInt .u32).z)).length)) [(0,(rwK (kInt .u32) 130 (List.replicate ((IntKind.i64.wrap ((a0.length:Int)+(a1.length:Int))).toNat) (kInt .u32).z)))] rfl (snd_makeK (kInt .u32) _ _ _ _ _ 0 _ _ _ rfl underlying22 ze130 sb130 (by decide) rfl rfl rfl rfl rfl h1) rfl<|.g 9 rfl<|?_
 refine .cut (fun x:(List Int)=>(r01_Mul_j1 x,[(5,some (.row 0 (kInt .u32).sz 0 ((x).length)))],[(0,(rwK (kInt .u32) 130 x))])) ?_ ?_
 ·rintro y276
  dsimp only [r01_Mul_j1]
  refine .g 2 rfl<|?_
  refine .weak ?_ (fun a w h=>Conc.freezeK (kInt .u32) h 5 0 0 ((y276).length) 130 y276 rfl rfl (by omega))
  refine .weak ?_ (fun a w h=>take_all h)
  refine .g 2 rfl<|.p0 rfl rfl fun x277 _=>.g 4 rfl<|.fi rfl rfl
 ·intro h375
  refine .g 1 rfl<|?_
  refine .lp (fun n (x:Int × (List Int))=>r01_Mul_l2 a0 a1 n x.1 x.2) (fun x=>([eL 0 a0,eL 1 a1,(5,some (.row 0 (kInt .u32).sz 0 ((x.2).length))),eI 6 x.1],[(0,(rwK (kInt .u32) 130 x.2))])) (0,(List.replicate ((IntKind.i64.wrap ((a0.length:Int)+(a1.length:Int))).toNat) (kInt .u32).z)) [(0,0)] rfl ?_
  rintro n2 ⟨y338,y339⟩
  try dsimp only
  rw [r01_Mul_l2]
  refine .g 5 rfl<|.ln rfl rfl<|.g 3 rfl<|?_
  refine .cd rfl (fun _ _=>?_) fun _ _=>?_
  ·refine .g 3 rfl<|?_
   refine .cut (fun x:(List Int)=>(r01_Mul_j3 (fun z0 z1=>r01_Mul_l2 a0 a1 n2 z0 z1) y338 x,[eL 0 a0,eL 1 a1,(5,some (.row 0 (kInt .u32).sz 0 ((x).length))),eI 6 y338],[(0,(rwK (kInt .u32) 130 x))])) ?_ ?_
   ·rintro y354
    dsimp only [r01_Mul_j3]
    refine .g 6 rfl<|.ag ((IntKind.i64.wrap (y338+1)),y354) [(0,0)] rfl
   ·intro h687
    refine .g 12 rfl<|?_
    refine .cut (fun x:Int × (List Int)=>(r01_Mul_j4 y338 a1 (fun z0 z1=>r01_Mul_l2 a0 a1 n2 z0 z1) x.1 x.2,[eL 0 a0,eL 1 a1,(5,some (.row 0 (kInt .u32).sz 0 ((x.2).length))),eI 6 y338,eX 7 x.1],[(0,(rwK (kInt .u32) 130 x.2))])) ?_ ?_
    ·rintro ⟨y361,y362⟩
     dsimp only [r01_Mul_j4]
     refine .g 5 rfl<|.ln rfl rfl<|.g 3 rfl<|.guard fun h718=>?_
     obtain ⟨h7181,h7182⟩:=h718
     refine .sv (.rptr 0 (kInt .u32).sz ((IntKind.i64.wrap (y338+(a1.length:Int))).toNat) 0) [] rfl (idx_r (snd_index_r _ _ _ _ _ 0 0 ((y362).length) _ (IntKind.i64.wrap (y338+(a1.length:Int))) rfl underlying22 si130 rfl rfl rfl rfl h7181 (by omega)) (Nat.zero_add _)) rfl<|.sm [(0,(rwK (kInt .u32) 130 ((y362).set ((IntKind.i64.wrap (y338+(a1.length:Int))).toNat) (IntKind.u32.wrap y361))))] rfl (snd_storeK_sca (kInt .u32) _ _ _ 0 ((IntKind.i64.wrap (y338+(a1.length:Int))).toNat) _ _ (IntKind.u32.wrap y361) _ rfl rfl rfl sc130 rfl rfl rfl rfl rfl rfl (by first | omega | (simp only [List.length_set]; omega))) rfl<|?_
     refine .weak ?_ (fun a w h=>Conc.relen h 5 ((((y362).set ((IntKind.i64.wrap (y338+(a1.length:Int))).toNat) (IntKind.u32.wrap y361))).length) rfl List.length_set.symm)
     refine .g 2 rfl<|.jw (h687 ((y362).set ((IntKind.i64.wrap (y338+(a1.length:Int))).toNat) (IntKind.u32.wrap y361))) [(0,0)] rfl
    ·intro h719
     refine .g 1 rfl<|?_
     refine .lp (fun n (x:Int × Int × (List Int))=>r01_Mul_l5 a1 y338 a0 (fun z0 z1=>r01_Mul_l2 a0 a1 n2 z0 z1) n x.1 x.2.1 x.2.2) (fun x=>([eL 0 a0,eL 1 a1,(5,some (.row 0 (kInt .u32).sz 0 ((x.2.2).length))),eI 6 y338,eX 7 x.1,eI 8 x.2.1],[(0,(rwK (kInt .u32) 130 x.2.2))])) (0,0,y339) [(0,0)] rfl ?_
     rintro n5 ⟨y366,y367,y368⟩
     try dsimp only
     rw [r01_Mul_l5]
     refine .g 5 rfl<|.ln rfl rfl<|.g 3 rfl<|?_
     refine .cd rfl (fun _ _=>?_) fun _ _=>?_
     ·refine .g 8 rfl<|.ix rfl rfl<|.g 4 rfl<|.ix rfl rfl<|.g 7 rfl<|.guard fun h748=>?_
      obtain ⟨h7481,h7482⟩:=h748
      refine .sv (.rptr 0 (kInt .u32).sz ((IntKind.i64.wrap (y338+y367)).toNat) 0) [] rfl (idx_r (snd_index_r _ _ _ _ _ 0 0 ((y368).length) _ (IntKind.i64.wrap (y338+y367)) rfl underlying22 si130 rfl rfl rfl rfl h7481 (by omega)) (Nat.zero_add _)) rfl<|.sv (.int .u32 ((y368).getD ((IntKind.i64.wrap (y338+y367)).toNat) (kInt .u32).z)) [] rfl (snd_loadK_sca (kInt .u32) _ _ 0 ((IntKind.i64.wrap (y338+y367)).toNat) 0 _ _ rfl sc130 rfl rfl rfl rfl (by first | omega | (simp only [List.length_set]; omega)) (by decide)) rfl<|.g 5 rfl<|.dn (by kernel_rfl)<|.g 9 rfl<|.guard fun h749=>?_
      obtain ⟨h7491,h7492⟩:=h749
      refine .sv (.rptr 0 (kInt .u32).sz ((IntKind.i64.wrap (y338+y367)).toNat) 0) [] rfl (idx_r (snd_index_r _ _ _ _ _ 0 0 ((y368).length) _ (IntKind.i64.wrap (y338+y367)) rfl underlying22 si130 rfl rfl rfl rfl h7491 (by omega)) (Nat.zero_add _)) rfl<|.sm [(0,(rwK (kInt .u32) 130 ((y368).set ((IntKind.i64.wrap (y338+y367)).toNat) (IntKind.u32.wrap (IntKind.u64.wrap ((IntKind.u64.wrap ((IntKind.u64.wrap ((IntKind.u64.wrap (a0.getD y338.toNat (kInt .u32).z))*(IntKind.u64.wrap (a1.getD y367.toNat (kInt .u32).z))))+(IntKind.u64.wrap ((y368).getD ((IntKind.i64.wrap (y338+y367)).toNat) (kInt .u32).z))))+y366))))))] rfl (snd_storeK_sca (kInt .u32) _ _ _ 0 ((IntKind.i64.wrap (y338+y367)).toNat) _ _ (IntKind.u32.wrap (IntKind.u64.wrap ((IntKind.u64.wrap ((IntKind.u64.wrap ((IntKind.u64.wrap (a0.getD y338.toNat (kInt .u32).z))*(IntKind.u64.wrap (a1.getD y367.toNat (kInt .u32).z))))+(IntKind.u64.wrap ((y368).getD ((IntKind.i64.wrap (y338+y367)).toNat) (kInt .u32).z))))+y366))) _ rfl rfl rfl sc130 rfl rfl rfl rfl rfl rfl (by first | omega | (simp only [List.length_set]; omega))) rfl<|?_
      refine .weak ?_ (fun a w h=>Conc.relen h 5 ((((y368).set ((IntKind.i64.wrap (y338+y367)).toNat) (IntKind.u32.wrap (IntKind.u64.wrap ((IntKind.u64.wrap ((IntKind.u64.wrap ((IntKind.u64.wrap (a0.getD y338.toNat (kInt .u32).z))*(IntKind.u64.wrap (a1.getD y367.toNat (kInt .u32).z))))+(IntKind.u64.wrap ((y368).getD ((IntKind.i64.wrap (y338+y367)).toNat) (kInt .u32).z))))+y366))))).length) rfl List.length_set.symm)
      refine .g 14 rfl<|.ag ((shrI .u64 (IntKind.u64.wrap ((IntKind.u64.wrap ((IntKind.u64.wrap ((IntKind.u64.wrap (a0.getD y338.toNat (kInt .u32).z))*(IntKind.u64.wrap (a1.getD y367.toNat (kInt .u32).z))))+(IntKind.u64.wrap ((y368).getD ((IntKind.i64.wrap (y338+y367)).toNat) (kInt .u32).z))))+y366)) 32),(IntKind.i64.wrap (y367+1)),((y368).set ((IntKind.i64.wrap (y338+y367)).toNat) (IntKind.u32.wrap (IntKind.u64.wrap ((IntKind.u64.wrap ((IntKind.u64.wrap ((IntKind.u64.wrap (a0.getD y338.toNat (kInt .u32).z))*(IntKind.u64.wrap (a1.getD y367.toNat (kInt .u32).z))))+(IntKind.u64.wrap ((y368).getD ((IntKind.i64.wrap (y338+y367)).toNat) (kInt .u32).z))))+y366))))) [(0,0)] rfl
     ·refine .g 4 rfl<|.jw (h719 (y366,y368)) [(0,0)] rfl
  ·refine .g 4 rfl<|.jw (h375 y339) [(0,0)] rfl
instance r01_Sub_i (a0:List Int) (a1:List Int):PC (r01_Sub a0 a1) Tryz.prog 271 [(slK (kInt .u32) a0),(slK (kInt .u32) a1)] (fun r=>(.tup [(slK (kInt .u32) r.1),(.bool r.2)])):=pc func271 (by kernel_rfl) rfl fun E=>by
 unfold r01_Sub
 refine .g 11 rfl<|.p0 rfl rfl fun x40 _=>.g 3 rfl<|?_
 refine .cd rfl (fun _ _=>?_) fun _ _=>?_
 ·refine .g 8 rfl<|.fj rfl rfl (.tup (.cons AVle.nil (.cons (AVle.refl _) .nil)))
 ·refine .g 18 rfl<|?_
  refine .cut (fun x:(List Int)=>(r01_Sub_j1 x,[(6,some (grA (kInt .u32) 0 x))],[(0,(grV (kInt .u32) 130 x))])) ?_ ?_
  ·rintro y59
   dsimp only [r01_Sub_j1]
   refine .g 2 rfl<|?_
   refine .weak ?_ (fun a w h=>Conc.gr_still (kInt .u32) h 6 0 130 y59 rfl rfl)
   refine .g 2 rfl<|.p0 rfl rfl fun x60 _=>.g 5 rfl<|.fi rfl rfl
  ·intro h29
   refine .g 1 rfl<|?_
   refine .weak ?_ (fun a w h=>Conc.gr_nil (kInt .u32) h 6 0 130 rfl)
   refine .lo (fun n (x:Int × Int × (List Int))=>r01_Sub_l2 a0 a1 n x.1 x.2.1 x.2.2) (fun x=>([eL 0 a0,eL 1 a1,(6,some (grA (kInt .u32) 0 x.2.2)),eX 7 x.1,eI 8 x.2.1],[(0,(grV (kInt .u32) 130 x.2.2))])) (0,0,[]) rfl (fun hE=>jn (m:=0) [(0,0)] hE (.l rfl<|.l rfl<|.g rfl (ren_gr (K:=(kInt .u32)) (by rfl) [])<|.i rfl<|.i rfl<|.nil) (.cons (.refl _) (renV_gr (K:=(kInt .u32)) 130 [])<|.nil) rfl) ?_
   rintro n2 ⟨y72,y73,y74⟩
   try dsimp only
   rw [r01_Sub_l2]
   refine .g 5 rfl<|.ln rfl rfl<|.g 3 rfl<|?_
   refine .cd rfl (fun _ _=>?_) fun _ _=>?_
   ·refine .g 8 rfl<|.p0 rfl rfl fun x77 _=>.g 3 rfl<|.p0 rfl rfl fun x78 _=>.g 11 rfl<|.st rfl (bs (kInt .u32) [(IntKind.u32.wrap (IntKind.u64.wrap ((IntKind.u64.wrap ((IntKind.u64.wrap (x77+4294967296))-x78))-y72)))] rfl rfl) rfl<|.guard fun h53=>.sv (.row 1 (kInt .u32).sz 0 (((y74++[(IntKind.u32.wrap (IntKind.u64.wrap ((IntKind.u64.wrap ((IntKind.u64.wrap (x77+4294967296))-x78))-y72)))])).length)) [(1,(rwK (kInt .u32) 130 (y74++[(IntKind.u32.wrap (IntKind.u64.wrap ((IntKind.u64.wrap ((IntKind.u64.wrap (x77+4294967296))-x78))-y72)))]))),(0,.dead)] rfl (snd_appendK_gr (kInt .u32) _ _ _ _ _ 0 1 y74 [(IntKind.u32.wrap (IntKind.u64.wrap ((IntKind.u64.wrap ((IntKind.u64.wrap (x77+4294967296))-x78))-y72)))] rfl underlying22 ze130 sb130 rfl rfl rfl rfl rfl rfl rfl h53) rfl<|.g 16 rfl<|?_
    refine .weak ?_ (fun a w h=>Conc.gr_row (kInt .u32) h 6 1 130 (y74++[(IntKind.u32.wrap (IntKind.u64.wrap ((IntKind.u64.wrap ((IntKind.u64.wrap (x77+4294967296))-x78))-y72)))]) rfl rfl (by first | omega | (simp only [List.length_append,List.length_cons,List.length_set]; omega) | simp))
    exact .ao ((IntKind.u64.wrap (1-(shrI .u64 (IntKind.u64.wrap ((IntKind.u64.wrap ((IntKind.u64.wrap (x77+4294967296))-x78))-y72)) 32))),(IntKind.i64.wrap (y73+1)),(y74++[(IntKind.u32.wrap (IntKind.u64.wrap ((IntKind.u64.wrap ((IntKind.u64.wrap (x77+4294967296))-x78))-y72)))])) rfl fun hE=>jn (m:=0) [(1,0)] hE (.l rfl<|.l rfl<|.g rfl (ren_gr (K:=(kInt .u32)) (by rfl) (y74++[(IntKind.u32.wrap (IntKind.u64.wrap ((IntKind.u64.wrap ((IntKind.u64.wrap (x77+4294967296))-x78))-y72)))]))<|.i rfl<|.i rfl<|.nil) (.cons (.refl _) (renV_gr (K:=(kInt .u32)) 130 (y74++[(IntKind.u32.wrap (IntKind.u64.wrap ((IntKind.u64.wrap ((IntKind.u64.wrap (x77+4294967296))-x78))-y72)))]))<|.nil) rfl
   ·refine .g 4 rfl<|.jo (h29 y74) rfl fun hE=>jn (m:=0) [(0,0)] hE (.g rfl (ren_gr (K:=(kInt .u32)) (by rfl) y74)<|.nil) (.cons (.refl _) (renV_gr (K:=(kInt .u32)) 130 y74)<|.nil) rfl
instance r03_DivMod_i (a0:List Int) (a1:List Int):PC (r03_DivMod a0 a1) Tryz.prog 243 [(slK (kInt .u32) a0),(slK (kInt .u32) a1)] (fun r=>(.tup [(slK (kInt .u32) r.1),(slK (kInt .u32) r.2.1),(.bool r.2.2)])):=pc func243 (by kernel_rfl) rfl fun E=>by
 unfold r03_DivMod
 refine .g 10 rfl<|.p0 rfl rfl fun x694 _=>.g 7 rfl<|.ln rfl rfl<|.g 3 rfl<|?_
 refine .cd rfl (fun _ _=>?_) fun _ _=>?_
 ·refine .g 9 rfl<|.fj rfl rfl (.tup (.cons AVle.nil (.cons AVle.nil (.cons (AVle.refl _) .nil))))
 ·refine .g 6 rfl<|.ln rfl rfl<|.g 3 rfl<|?_
  refine .cd rfl (fun _ _=>?_) fun _ _=>?_
  ·refine .g 4 rfl<|.ix rfl rfl<|.g 2 rfl<|.p0 rfl rfl fun x695 _=>.g 18 rfl<|.fi rfl rfl
  ·refine .g 5 rfl<|.ln rfl rfl<|.g 2 rfl<|.p0 rfl rfl fun x696 _=>.g 8 rfl<|.p0 rfl rfl fun x697 _=>.g 10 rfl<|.p0 rfl rfl fun x698 _=>.g 10 rfl<|.ln rfl rfl<|.guard fun h11=>.sv (.row 0 (kInt .u32).sz 0 (((List.replicate x698.1.length (kInt .u32).z)).length)) [(0,(rwK (kInt .u32) 130 (List.replicate x698.1.length (kInt .u32).z)))] rfl (snd_makeK (kInt .u32) _ _ _ _ _ 0 _ _ _ rfl underlying22 ze130 sb130 (by decide) rfl rfl rfl rfl rfl h11) rfl<|.g 12 rfl<|.ln rfl rfl<|?_
   refine .g 4 rfl<|?_
   refine .cut (fun x:(List Int) × (List Int)=>(r03_DivMod_j1 x694 x696 x.1 x.2,[eI 10 (IntKind.i64.wrap ((IntKind.i64.wrap (32*(x694.length:Int)))-x696)),(13,some (.row 0 (kInt .u32).sz 0 ((x.2).length))),eL 14 x.1],[(0,(rwK (kInt .u32) 130 x.2))])) ?_ ?_
   ·rintro ⟨y1041,y1042⟩
    dsimp only [r03_DivMod_j1]
    refine .g 2 rfl<|?_
    refine .weak ?_ (fun a w h=>Conc.freezeK (kInt .u32) h 13 0 0 ((y1042).length) 130 y1042 rfl rfl (by omega))
    refine .weak ?_ (fun a w h=>take_all h)
    refine .g 2 rfl<|.p0 rfl rfl fun x1043 _=>.g 2 rfl<|.p0 rfl rfl fun x1044 _=>.g 6 rfl<|.fi rfl rfl
   ·intro h356
    refine .g 1 rfl<|?_
    refine .weak ?_ (fun a w h=>Conc.noV (Conc.put1 (x:=0) h (t:=14) (v':=slK (kInt .u32) []) rfl rfl AVle.nil (.refl _)))
    refine .lp (fun n (x:(List Int) × Int × (List Int))=>r03_DivMod_l2 x698 x697 x694 x696 n x.1 x.2.1 x.2.2) (fun x=>([eL 7 x697.1,eI 10 (IntKind.i64.wrap ((IntKind.i64.wrap (32*(x694.length:Int)))-x696)),eL 11 x698.1,(13,some (.row 0 (kInt .u32).sz 0 ((x.2.2).length))),eL 14 x.1,eI 15 x.2.1],[(0,(rwK (kInt .u32) 130 x.2.2))])) ([],(IntKind.i64.wrap ((x698.1.length:Int)-1)),(List.replicate x698.1.length (kInt .u32).z)) [(0,0)] rfl ?_
    rintro n2 ⟨y1272,y1273,y1274⟩
    try dsimp only
    rw [r03_DivMod_l2]
    refine .g 7 rfl<|?_
    refine .cd rfl (fun _ _=>?_) fun _ _=>?_
    ·refine .g 3 rfl<|?_
     refine .cut (fun x:(List Int) × (List Int)=>(r03_DivMod_j3 (fun z0 z1 z2=>r03_DivMod_l2 x698 x697 x694 x696 n2 z0 z1 z2) y1273 x.1 x.2,[eL 7 x697.1,eI 10 (IntKind.i64.wrap ((IntKind.i64.wrap (32*(x694.length:Int)))-x696)),eL 11 x698.1,(13,some (.row 0 (kInt .u32).sz 0 ((x.2).length))),eL 14 x.1,eI 15 y1273],[(0,(rwK (kInt .u32) 130 x.2))])) ?_ ?_
     ·rintro ⟨y1330,y1331⟩
      dsimp only [r03_DivMod_j3]
      refine .g 6 rfl<|.ag (y1330,(IntKind.i64.wrap (y1273-1)),y1331) [(0,0)] rfl
     ·intro h643
      refine .g 5 rfl<|.ix rfl rfl<|.g 1 rfl<|.sv (.row 1 (kInt .u32).sz 0 (([(x698.1.getD y1273.toNat (kInt .u32).z)]).length)) [(1,(rwK (kInt .u32) 130 [(x698.1.getD y1273.toNat (kInt .u32).z)]))] rfl (snd_buildSliceK_row (kInt .u32) _ _ 1 1 _ _ [(0,(.int .u32 (x698.1.getD y1273.toNat (kInt .u32).z)))] [(x698.1.getD y1273.toNat (kInt .u32).z)] rfl underlying22 ze130 si130 rfl rfl rfl rfl (by decide) (by decide) (by decide) rfl rfl rfl) rfl<|.g 1 rfl<|.guard fun h645=>.sv (.row 2 (kInt .u32).sz 0 ((([(x698.1.getD y1273.toNat (kInt .u32).z)]++y1272)).length)) [(2,(rwK (kInt .u32) 130 ([(x698.1.getD y1273.toNat (kInt .u32).z)]++y1272))),(1,.dead)] rfl (snd_appendK0 (kInt .u32) _ _ _ _ _ 1 2 [(x698.1.getD y1273.toNat (kInt .u32).z)] y1272 rfl underlying22 ze130 sb130 rfl rfl rfl rfl rfl rfl h645) rfl<|?_
      refine .weak ?_ (fun a w h=>Conc.freezeK (kInt .u32) h 72 2 0 ((([(x698.1.getD y1273.toNat (kInt .u32).z)]++y1272)).length) 130 ([(x698.1.getD y1273.toNat (kInt .u32).z)]++y1272) rfl rfl (by omega))
      refine .weak ?_ (fun a w h=>take_all h)
      refine .p0 rfl rfl fun x1332 _=>.g 7 rfl<|.p0 rfl rfl fun x1333 _=>.g 8 rfl<|.p0 rfl rfl fun x1334 _=>.p0 rfl rfl fun x1335 _=>.p0 rfl rfl fun x1336 _=>.g 8 rfl<|?_
      refine .cut (fun x:Int × (List Int)=>(r03_DivMod_j4 y1273 y1274 (fun z0 z1 z2=>r03_DivMod_l2 x698 x697 x694 x696 n2 z0 z1 z2) x.1 x.2,[eL 7 x697.1,eI 10 (IntKind.i64.wrap ((IntKind.i64.wrap (32*(x694.length:Int)))-x696)),eL 11 x698.1,(13,some (.row 0 (kInt .u32).sz 0 ((y1274).length))),eI 15 y1273,eX 16 x.1,eL 17 x.2],[(0,(rwK (kInt .u32) 130 y1274))])) ?_ ?_
      ·rintro ⟨y1361,y1362⟩
       dsimp only [r03_DivMod_j4]
       refine .g 7 rfl<|.guard fun h675=>?_
       obtain ⟨h6751,h6752⟩:=h675
       refine .sv (.rptr 0 (kInt .u32).sz y1273.toNat 0) [] rfl (idx_r (snd_index_r _ _ _ _ _ 0 0 ((y1274).length) _ y1273 rfl underlying22 si130 rfl rfl rfl rfl h6751 (by omega)) (Nat.zero_add _)) rfl<|.sm [(0,(rwK (kInt .u32) 130 ((y1274).set y1273.toNat (IntKind.u32.wrap y1361))))] rfl (snd_storeK_sca (kInt .u32) _ _ _ 0 y1273.toNat _ _ (IntKind.u32.wrap y1361) _ rfl rfl rfl sc130 rfl rfl rfl rfl rfl rfl (by first | omega | (simp only [List.length_set]; omega))) rfl<|?_
       refine .weak ?_ (fun a w h=>Conc.relen h 13 ((((y1274).set y1273.toNat (IntKind.u32.wrap y1361))).length) rfl List.length_set.symm)
       refine .g 7 rfl<|.jw (h643 (y1362,((y1274).set y1273.toNat (IntKind.u32.wrap y1361)))) [(0,0)] rfl
      ·intro h676
       refine .g 1 rfl<|?_
       refine .lp (fun n (x:Int × (List Int) × Bool)=>r03_DivMod_l5 x697 x1332 y1273 y1274 (fun z0 z1 z2=>r03_DivMod_l2 x698 x697 x694 x696 n2 z0 z1 z2) n x.1 x.2.1 x.2.2) (fun x=>([eL 7 x697.1,eI 10 (IntKind.i64.wrap ((IntKind.i64.wrap (32*(x694.length:Int)))-x696)),eL 11 x698.1,(13,some (.row 0 (kInt .u32).sz 0 ((y1274).length))),eL 14 x1332,eI 15 y1273,eX 16 x.1,eL 17 x.2.1,eB 18 x.2.2],[(0,(rwK (kInt .u32) 130 y1274))])) (x1333,x1336.1,x1336.2) [(0,0)] rfl ?_
       rintro n5 ⟨y1378,y1379,y1380⟩
       try dsimp only
       rw [r03_DivMod_l5]
       refine .g 7 rfl<|?_
       refine .cd rfl (fun _ _=>?_) fun _ _=>?_
       ·refine .g 14 rfl<|.p0 rfl rfl fun x1384 _=>.p0 rfl rfl fun x1385 _=>.p0 rfl rfl fun x1386 _=>.g 7 rfl<|.ag ((IntKind.u64.wrap (y1378-1)),x1386.1,x1386.2) [(0,0)] rfl
       ·refine .g 4 rfl<|.jw (h676 (y1378,y1379)) [(0,0)] rfl
    ·refine .g 4 rfl<|.jw (h356 (y1272,y1274)) [(0,0)] rfl
instance r01_Add_i (a0:List Int) (a1:List Int):PC (r01_Add a0 a1) Tryz.prog 256 [(slK (kInt .u32) a0),(slK (kInt .u32) a1)] (fun r=>(slK (kInt .u32) r)):=pc func256 (by kernel_rfl) rfl fun E=>by
 unfold r01_Add
 refine .g 21 rfl<|?_
 refine .cut (fun x:(List Int)=>(r01_Add_j1 x,[(5,some (grA (kInt .u32) 0 x))],[(0,(grV (kInt .u32) 130 x))])) ?_ ?_
 ·rintro y57
  dsimp only [r01_Add_j1]
  refine .g 2 rfl<|?_
  refine .weak ?_ (fun a w h=>Conc.gr_still (kInt .u32) h 5 0 130 y57 rfl rfl)
  refine .g 2 rfl<|.p0 rfl rfl fun x58 _=>.g 4 rfl<|.fi rfl rfl
 ·intro h26
  refine .g 1 rfl<|?_
  refine .weak ?_ (fun a w h=>Conc.gr_nil (kInt .u32) h 5 0 130 rfl)
  refine .lo (fun n (x:Int × Int × (List Int))=>r01_Add_l2 a0 a1 n x.1 x.2.1 x.2.2) (fun x=>([eL 0 a0,eL 1 a1,(5,some (grA (kInt .u32) 0 x.2.2)),eX 6 x.1,eI 7 x.2.1],[(0,(grV (kInt .u32) 130 x.2.2))])) (0,0,[]) rfl (fun hE=>jn (m:=0) [(0,0)] hE (.l rfl<|.l rfl<|.g rfl (ren_gr (K:=(kInt .u32)) (by rfl) [])<|.i rfl<|.i rfl<|.nil) (.cons (.refl _) (renV_gr (K:=(kInt .u32)) 130 [])<|.nil) rfl) ?_
  rintro n2 ⟨y70,y71,y72⟩
  try dsimp only
  rw [r01_Add_l2]
  refine .g 5 rfl<|.ln rfl rfl<|.g 1 rfl<|.ln rfl rfl<|.g 5 rfl<|?_
  refine .cd rfl (fun _ _=>?_) fun _ _=>?_
  ·refine .g 8 rfl<|.p0 rfl rfl fun x75 _=>.g 2 rfl<|.p0 rfl rfl fun x76 _=>.g 11 rfl<|.st rfl (bs (kInt .u32) [(IntKind.u32.wrap (IntKind.u64.wrap ((IntKind.u64.wrap (x75+x76))+y70)))] rfl rfl) rfl<|.guard fun h50=>.sv (.row 1 (kInt .u32).sz 0 (((y72++[(IntKind.u32.wrap (IntKind.u64.wrap ((IntKind.u64.wrap (x75+x76))+y70)))])).length)) [(1,(rwK (kInt .u32) 130 (y72++[(IntKind.u32.wrap (IntKind.u64.wrap ((IntKind.u64.wrap (x75+x76))+y70)))]))),(0,.dead)] rfl (snd_appendK_gr (kInt .u32) _ _ _ _ _ 0 1 y72 [(IntKind.u32.wrap (IntKind.u64.wrap ((IntKind.u64.wrap (x75+x76))+y70)))] rfl underlying22 ze130 sb130 rfl rfl rfl rfl rfl rfl rfl h50) rfl<|.g 15 rfl<|?_
   refine .weak ?_ (fun a w h=>Conc.gr_row (kInt .u32) h 5 1 130 (y72++[(IntKind.u32.wrap (IntKind.u64.wrap ((IntKind.u64.wrap (x75+x76))+y70)))]) rfl rfl (by first | omega | (simp only [List.length_append,List.length_cons,List.length_set]; omega) | simp))
   exact .ao ((shrI .u64 (IntKind.u64.wrap ((IntKind.u64.wrap (x75+x76))+y70)) 32),(IntKind.i64.wrap (y71+1)),(y72++[(IntKind.u32.wrap (IntKind.u64.wrap ((IntKind.u64.wrap (x75+x76))+y70)))])) rfl fun hE=>jn (m:=0) [(1,0)] hE (.l rfl<|.l rfl<|.g rfl (ren_gr (K:=(kInt .u32)) (by rfl) (y72++[(IntKind.u32.wrap (IntKind.u64.wrap ((IntKind.u64.wrap (x75+x76))+y70)))]))<|.i rfl<|.i rfl<|.nil) (.cons (.refl _) (renV_gr (K:=(kInt .u32)) 130 (y72++[(IntKind.u32.wrap (IntKind.u64.wrap ((IntKind.u64.wrap (x75+x76))+y70)))]))<|.nil) rfl
  ·refine .g 4 rfl<|.jo (h26 y72) rfl fun hE=>jn (m:=0) [(0,0)] hE (.g rfl (ren_gr (K:=(kInt .u32)) (by rfl) y72)<|.nil) (.cons (.refl _) (renV_gr (K:=(kInt .u32)) 130 y72)<|.nil) rfl
instance r05_cut_i (a0:Bool) (a1:List Int) (a2:Int) (a3:Bool) (a4:Int) (a5:Bool):PC (r05_cut a0 a1 a2 a3 a4 a5) Tryz.prog 244 [(.bool a0),(slK (kInt .u32) a1),(.int .i64 a2),(.bool a3),(.int .i64 a4),(.bool a5)] (fun r=>(.agg (kD.enc (⟨((r).M),(r).E⟩:AD)))):=pc func244 (by kernel_rfl) rfl fun E=>by
 unfold r05_cut
 refine .g 8 rfl<|.p0 rfl rfl fun x20 _=>.g 12 rfl<|?_
 refine .cut (fun x:(List Int) × Int × Bool=>(r05_cut_j1 a0 a5 x.1 x.2.1 x.2.2,[eB 0 a0,eL 1 x.1,eI 2 x.2.1,eB 3 x.2.2,eB 5 a5,eP 12 0],[(0,(.live 26 [(.bool false),(slK (kInt .u32) []),(.int .i64 0)]))])) ?_ ?_
 ·rintro ⟨y26,y27,y28⟩
  dsimp only [r05_cut_j1]
  refine .g 3 rfl<|?_
  refine .cut (fun x:Bool=>(r05_cut_j2 y26 a0 y27 x,[eB 0 a0,eL 1 y26,eI 2 y27,eP 12 0,eB 46 x],[(0,(.live 26 [(.bool false),(slK (kInt .u32) []),(.int .i64 0)]))])) ?_ ?_
  ·rintro y29
   dsimp only [r05_cut_j2]
   refine .g 1 rfl<|?_
   refine .cut (fun x:(List Int)=>(r05_cut_j3 a0 y27 x,[eB 0 a0,eL 1 x,eI 2 y27,eP 12 0],[(0,(.live 26 [(.bool false),(slK (kInt .u32) []),(.int .i64 0)]))])) ?_ ?_
   ·rintro y31
    dsimp only [r05_cut_j3]
    refine .g 7 rfl<|.p0 rfl rfl fun x32 _=>.g 4 rfl<|.fi rfl rfl
   ·intro h15
    refine .cd rfl (fun _ _=>?_) fun _ _=>?_
    ·refine .g 2 rfl<|.st rfl (bs (kInt .u32) [1] rfl rfl) rfl<|.p0 rfl rfl fun x33 _=>.g 2 rfl<|.jw (h15 x33) [(0,0)] rfl
    ·refine .g 1 rfl<|.jw (h15 y26) [(0,0)] rfl
  ·intro h19
   refine .g 3 rfl<|?_
   refine .gd 44 rfl (fun _=>?_) fun _=>?_
   ·refine .g 3 rfl<|.jw (h19 a5) [(0,0)] rfl
   ·refine .g 3 rfl<|.jw (h19 false) [(0,0)] rfl
 ·intro h21
  refine .cd rfl (fun _ _=>?_) fun _ _=>?_
  ·refine .g 4 rfl<|.p0 rfl rfl fun x34 _=>.g 7 rfl<|.p0 rfl rfl fun x35 _=>.g 8 rfl<|?_
   refine .cut (fun x:Bool=>(r05_cut_j4 a0 a5 x34 a2 x20 a4 x,[eB 0 a0,eI 2 a2,eB 3 x,eB 5 a5,eP 12 0,eI 13 (IntKind.i64.wrap (x20-a4)),eL 14 x34],[(0,(.live 26 [(.bool false),(slK (kInt .u32) []),(.int .i64 0)]))])) ?_ ?_
   ·rintro y37
    dsimp only [r05_cut_j4]
    refine .g 13 rfl<|.jw (h21 (x34,(IntKind.i64.wrap (a2+(IntKind.i64.wrap (x20-a4)))),y37)) [(0,0)] rfl
   ·intro h28
    refine .g 3 rfl<|?_
    refine .gd 33 rfl (fun _=>?_) fun _=>?_
    ·refine .g 7 rfl<|.jw (h28 true) [(0,0)] rfl
    ·refine .g 2 rfl<|.p0 rfl rfl fun x38 _=>.g 4 rfl<|.jw (h28 (x38 != 0)) [(0,0)] rfl
  ·refine .g 1 rfl<|.jw (h21 (a1,a2,a3)) [(0,0)] rfl
instance r05_inRange_i (a0:AD):PC (r05_inRange a0) Tryz.prog 152 [(.agg (kD.enc a0))] (fun r=>(.bool r)):=pc func152 (by kernel_rfl) rfl fun E=>by
 unfold r05_inRange
 refine .g 12 rfl<|.ln rfl rfl<|.g 3 rfl<|?_
 refine .cd rfl (fun _ _=>?_) fun _ _=>?_
 ·refine .g 7 rfl<|.fi rfl rfl
 ·refine .g 5 rfl<|.p0 rfl rfl fun x5 _=>.g 4 rfl<|?_
  refine .cut (fun x:Bool=>(r05_inRange_j1 x,[eB 2 x],[])) ?_ ?_
  ·rintro y7
   dsimp only [r05_inRange_j1]
   refine .g 2 rfl<|.fi rfl rfl
  ·intro h9
   refine .g 4 rfl<|?_
   refine .gd 13 rfl (fun _=>?_) fun _=>?_
   ·refine .g 4 rfl<|?_
    refine .gd 17 rfl (fun _=>?_) fun _=>?_
    ·refine .g 5 rfl<|?_
     refine .gd 22 rfl (fun _=>?_) fun _=>?_
     ·refine .g 5 rfl<|?_
      refine .gd 27 rfl (fun _=>?_) fun _=>?_
      ·refine .g 3 rfl<|.p0 rfl rfl fun x8 _=>.g 4 rfl<|.jw (h9 (decide (x8≤262144))) [] rfl
      ·refine .g 8 rfl<|.jw (h9 false) [] rfl
     ·refine .g 13 rfl<|.jw (h9 false) [] rfl
    ·refine .g 18 rfl<|.jw (h9 false) [] rfl
   ·refine .g 22 rfl<|.jw (h9 false) [] rfl
instance r05_told_i (a0:AD):PC (r05_told a0) Tryz.prog 202 [(.agg (kD.enc a0))] (fun r=>(.tup [(.agg (kD.enc (⟨((r.1).M),(r.1).E⟩:AD))),(.int .i64 r.2)])):=pc func202 (by kernel_rfl) rfl fun E=>by
 unfold r05_told
 refine .g 10 rfl<|.p0 rfl rfl fun x2 _=>.g 10 rfl<|?_
 refine .cd rfl (fun _ _=>?_) fun _ _=>?_
 ·refine .g 9 rfl<|.fi rfl rfl
 ·refine .g 10 rfl<|.fi rfl rfl
instance r05_Div_i (a0:AD) (a1:AD) (a2:Int) (a3:Bool):PC (r05_Div a0 a1 a2 a3) Tryz.prog 182 [(.agg (kD.enc a0)),(.agg (kD.enc a1)),(.int .i64 a2),(.bool a3)] (fun r=>(.tup [(.agg (kD.enc (⟨((r.1).M),(r.1).E⟩:AD))),(.int .i64 r.2)])):=pc func182 (by kernel_rfl) rfl fun E=>by
 unfold r05_Div
 refine .g 11 rfl<|.p0 rfl rfl fun x12 _=>.g 6 rfl<|.p0 rfl rfl fun x13 _=>.g 5 rfl<|?_
 refine .cut (fun x:Bool=>(r05_Div_j1 a1 a0 a2 a3 x,[eI 2 a2,eB 3 a3,eP 4 0,eP 5 1,eP 8 2,eB 32 x],[(0,(.live 26 [(.bool a0.M.Neg),(slK (kInt .u32) a0.M.Mag),(.int .i64 a0.E)])),(1,(.live 26 [(.bool a1.M.Neg),(slK (kInt .u32) a1.M.Mag),(.int .i64 a1.E)])),(2,(.live 26 [(.bool false),(slK (kInt .u32) []),(.int .i64 0)]))])) ?_ ?_
 ·rintro y15
  dsimp only [r05_Div_j1]
  refine .g 1 rfl<|?_
  refine .cd rfl (fun _ _=>?_) fun _ _=>?_
  ·refine .g 9 rfl<|.fi rfl rfl
  ·refine .g 8 rfl<|.ln rfl rfl<|.g 3 rfl<|?_
   refine .cd rfl (fun _ _=>?_) fun _ _=>?_
   ·refine .g 9 rfl<|.fi rfl rfl
   ·refine .g 8 rfl<|.ln rfl rfl<|.g 3 rfl<|?_
    refine .cd rfl (fun _ _=>?_) fun _ _=>?_
    ·refine .g 9 rfl<|.fi rfl rfl
    ·refine .g 9 rfl<|.p0 rfl rfl fun x16 _=>.g 4 rfl<|.p0 rfl rfl fun x17 _=>.g 3 rfl<|.dn (by kernel_rfl)<|.g 7 rfl<|.p0 rfl rfl fun x18 _=>.g 9 rfl<|.p0 rfl rfl fun x19 _=>.g 33 rfl<|.ln rfl rfl<|.g 5 rfl<|.p0 rfl rfl fun x20 _=>?_
     refine .p0 rfl rfl fun x21 _=>.g 7 rfl<|.fi rfl rfl
 ·intro h18
  refine .g 4 rfl<|?_
  refine .gd 24 rfl (fun _=>?_) fun _=>?_
  ·refine .g 9 rfl<|.jw (h18 true) [(0,0),(1,1),(2,2)] rfl
  ·refine .g 4 rfl<|?_
   refine .gd 28 rfl (fun _=>?_) fun _=>?_
   ·refine .g 5 rfl<|.jw (h18 true) [(0,0),(1,1),(2,2)] rfl
   ·refine .g 1 rfl<|.p0 rfl rfl fun x22 _=>.g 3 rfl<|.jw (h18 (!x22)) [(0,0),(1,1),(2,2)] rfl
instance r06_least_i (a0:List AD):PC (r06_least a0) Tryz.prog 184 [(slK kD a0)] (fun r=>(.agg (kD.enc (⟨((r).M),(r).E⟩:AD)))):=pc func184 (by kernel_rfl) rfl fun E=>by
 unfold r06_least
 refine .g 8 rfl<|.ix rfl rfl<|.g 11 rfl<|?_
 refine .cut (fun x:Bool × (List Int) × Int=>(r06_least_j1 x.1 x.2.1 x.2.2,[eP 2 0,eP 3 1],[(0,(.live 26 [(.bool false),(slK (kInt .u32) []),(.int .i64 0)])),(1,(.live 26 [(.bool x.1),(slK (kInt .u32) x.2.1),(.int .i64 x.2.2)]))])) ?_ ?_
 ·rintro ⟨y100,y101,y102⟩
  dsimp only [r06_least_j1]
  refine .g 8 rfl<|.fi rfl rfl
 ·intro h56
  refine .g 1 rfl<|?_
  refine .lp (fun n (x:Int × Bool × (List Int) × Int)=>r06_least_l2 a0 n x.1 x.2.1 x.2.2.1 x.2.2.2) (fun x=>([eK kD 0 a0,eP 2 0,eP 3 1,eI 4 x.1],[(0,(.live 26 [(.bool false),(slK (kInt .u32) []),(.int .i64 0)])),(1,(.live 26 [(.bool x.2.1),(slK (kInt .u32) x.2.2.1),(.int .i64 x.2.2.2)]))])) (1,((a0.getD 0 zAD).M).Neg,((a0.getD 0 zAD).M).Mag,(a0.getD 0 zAD).E) [(0,0),(1,1)] rfl ?_
  rintro n2 ⟨y123,y124,y125,y126⟩
  try dsimp only
  rw [r06_least_l2]
  refine .g 5 rfl<|.ln rfl rfl<|.g 3 rfl<|?_
  refine .cd rfl (fun _ _=>?_) fun _ _=>?_
  ·refine .g 8 rfl<|.ix rfl rfl<|.g 2 rfl<|.p0 rfl rfl fun x131 _=>.g 1 rfl<|.dn (by kernel_rfl)<|.g 1 rfl<|?_
   refine .cut (fun x:Bool × (List Int) × Int=>(r06_least_j3 (fun z0 z1 z2 z3=>r06_least_l2 a0 n2 z0 z1 z2 z3) y123 x.1 x.2.1 x.2.2,[eK kD 0 a0,eP 2 0,eP 3 1,eI 4 y123],[(0,(.live 26 [(.bool false),(slK (kInt .u32) []),(.int .i64 0)])),(1,(.live 26 [(.bool x.1),(slK (kInt .u32) x.2.1),(.int .i64 x.2.2)]))])) ?_ ?_
   ·rintro ⟨y132,y133,y134⟩
    dsimp only [r06_least_j3]
    refine .g 7 rfl<|.ag ((IntKind.i64.wrap (y123+1)),y132,y133,y134) [(0,0),(1,1)] rfl
   ·intro h108
    refine .cd rfl (fun _ _=>?_) fun _ _=>?_
    ·refine .g 3 rfl<|.ix rfl rfl<|.g 3 rfl<|.jw (h108 (((a0.getD y123.toNat zAD).M).Neg,((a0.getD y123.toNat zAD).M).Mag,(a0.getD y123.toNat zAD).E)) [(0,0),(1,1)] rfl
    ·refine .g 1 rfl<|.jw (h108 (y124,y125,y126)) [(0,0),(1,1)] rfl
  ·refine .g 4 rfl<|.jw (h56 (y124,y125,y126)) [(0,0),(1,1)] rfl
instance r06_greatest_i (a0:List AD):PC (r06_greatest a0) Tryz.prog 185 [(slK kD a0)] (fun r=>(.agg (kD.enc (⟨((r).M),(r).E⟩:AD)))):=pc func185 (by kernel_rfl) rfl fun E=>by
 unfold r06_greatest
 refine .g 8 rfl<|.ix rfl rfl<|.g 11 rfl<|?_
 refine .cut (fun x:Bool × (List Int) × Int=>(r06_greatest_j1 x.1 x.2.1 x.2.2,[eP 2 0,eP 3 1],[(0,(.live 26 [(.bool false),(slK (kInt .u32) []),(.int .i64 0)])),(1,(.live 26 [(.bool x.1),(slK (kInt .u32) x.2.1),(.int .i64 x.2.2)]))])) ?_ ?_
 ·rintro ⟨y100,y101,y102⟩
  dsimp only [r06_greatest_j1]
  refine .g 8 rfl<|.fi rfl rfl
 ·intro h56
  refine .g 1 rfl<|?_
  refine .lp (fun n (x:Int × Bool × (List Int) × Int)=>r06_greatest_l2 a0 n x.1 x.2.1 x.2.2.1 x.2.2.2) (fun x=>([eK kD 0 a0,eP 2 0,eP 3 1,eI 4 x.1],[(0,(.live 26 [(.bool false),(slK (kInt .u32) []),(.int .i64 0)])),(1,(.live 26 [(.bool x.2.1),(slK (kInt .u32) x.2.2.1),(.int .i64 x.2.2.2)]))])) (1,((a0.getD 0 zAD).M).Neg,((a0.getD 0 zAD).M).Mag,(a0.getD 0 zAD).E) [(0,0),(1,1)] rfl ?_
  rintro n2 ⟨y123,y124,y125,y126⟩
  try dsimp only
  rw [r06_greatest_l2]
  refine .g 5 rfl<|.ln rfl rfl<|.g 3 rfl<|?_
  refine .cd rfl (fun _ _=>?_) fun _ _=>?_
  ·refine .g 8 rfl<|.ix rfl rfl<|.g 2 rfl<|.p0 rfl rfl fun x131 _=>.g 1 rfl<|.dn (by kernel_rfl)<|.g 1 rfl<|?_
   refine .cut (fun x:Bool × (List Int) × Int=>(r06_greatest_j3 (fun z0 z1 z2 z3=>r06_greatest_l2 a0 n2 z0 z1 z2 z3) y123 x.1 x.2.1 x.2.2,[eK kD 0 a0,eP 2 0,eP 3 1,eI 4 y123],[(0,(.live 26 [(.bool false),(slK (kInt .u32) []),(.int .i64 0)])),(1,(.live 26 [(.bool x.1),(slK (kInt .u32) x.2.1),(.int .i64 x.2.2)]))])) ?_ ?_
   ·rintro ⟨y132,y133,y134⟩
    dsimp only [r06_greatest_j3]
    refine .g 7 rfl<|.ag ((IntKind.i64.wrap (y123+1)),y132,y133,y134) [(0,0),(1,1)] rfl
   ·intro h108
    refine .cd rfl (fun _ _=>?_) fun _ _=>?_
    ·refine .g 3 rfl<|.ix rfl rfl<|.g 3 rfl<|.jw (h108 (((a0.getD y123.toNat zAD).M).Neg,((a0.getD y123.toNat zAD).M).Mag,(a0.getD y123.toNat zAD).E)) [(0,0),(1,1)] rfl
    ·refine .g 1 rfl<|.jw (h108 (y124,y125,y126)) [(0,0),(1,1)] rfl
  ·refine .g 4 rfl<|.jw (h56 (y124,y125,y126)) [(0,0),(1,1)] rfl
instance r06_Cout_i (a0:AD) (a1:AD) (a2:Int) (a3:Int):CC (r06_Cout a0 a1 a2 a3) Tryz.prog 183 [(.ptr 0 0),(.agg (kD.enc a0)),(.agg (kD.enc a1))] [(.live 162 [(.int .i64 a2),(.int .i64 a3)])] (fun r=>(.agg (kI.enc (⟨⟨(((r).Lo).M),((r).Lo).E⟩,⟨(((r).Hi).M),((r).Hi).E⟩⟩:AI)))) (fun r=>[(.live 162 [(.int .i64 a2),(.int .i64 a3)])]):=cc func183 (by kernel_rfl) rfl fun E=>by
 unfold r06_Cout
 refine .g 17 rfl<|?_
 refine .cd rfl (fun _ _=>?_) fun _ _=>?_
 ·refine .g 8 rfl<|.fi rfl rfl
 ·refine .g 11 rfl<|.fi rfl rfl
end Go.Proofs.YtjfcghliglfapabGreat.Gen
