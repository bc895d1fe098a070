/- Printed by geng.py: a call does what the plain function says. -/
import Derived.Test.YtjfcghliglfapabGreatGammStepGenP0
set_option linter.unusedVariables false
set_option linter.unusedSimpArgs false
set_option maxRecDepth 4000
namespace Go.Proofs.YtjfcghliglfapabGreat.Gen
open Go Go.Abs Go.Proofs Go.Proofs.Tryz
instance dyad_inRange_i (a0:AD):PC (dyad_inRange a0) Tryz.prog 154 [(.agg (kD.enc a0))] (fun r=>(.bool r)):=pc func154 (by kernel_rfl) rfl fun E=>by
 unfold dyad_inRange
 refine .g 7 rfl<|?_
 refine .cut (fun x:Bool=>(dyad_inRange_j1 x,[eB 2 x],[])) ?_ ?_
 ·rintro y17
  dsimp only [dyad_inRange_j1]
  refine .g 2 rfl<|.fi rfl rfl
 ·intro h9
  refine .g 2 rfl<|.p0 rfl rfl fun x18 _=>.g 1 rfl<|?_
  refine .gd 5 rfl (fun _=>?_) fun _=>?_
  ·refine .g 18 rfl<|.jw (h9 true) [] rfl
  ·refine .g 1 rfl<|.p0 rfl rfl fun x19 _=>.p0 rfl rfl fun x20 _=>.g 1 rfl<|?_
   refine .gd 9 rfl (fun _=>?_) fun _=>?_
   ·refine .g 2 rfl<|.p0 rfl rfl fun x21 _=>.g 2 rfl<|?_
    refine .gd 14 rfl (fun _=>?_) fun _=>?_
    ·refine .g 3 rfl<|.p0 rfl rfl fun x22 _=>.g 5 rfl<|.jw (h9 (decide (x22≤262144))) [] rfl
    ·refine .g 9 rfl<|.jw (h9 false) [] rfl
   ·refine .g 14 rfl<|.jw (h9 false) [] rfl
instance dyad_Make_i (a0:ApiInt) (a1:Int):PC (dyad_Make a0 a1) Tryz.prog 99 [(.agg (kN.enc a0)),(.int .i64 a1)] (fun r=>(.tup [(.agg (kD.enc (⟨((r.1).M),(r.1).E⟩:AD))),(.bool r.2)])):=pc func99 (by kernel_rfl) rfl fun E=>by
 unfold dyad_Make
 refine .g 11 rfl<|.p0 rfl rfl fun x4 _=>.g 3 rfl<|?_
 refine .cd rfl (fun _ _=>?_) fun _ _=>?_
 ·refine .g 9 rfl<|.fi rfl rfl
 ·refine .g 9 rfl<|.p0 rfl rfl fun x5 _=>.g 8 rfl<|.p0 rfl rfl fun x6 _=>.g 3 rfl<|?_
  refine .cd rfl (fun _ _=>?_) fun _ _=>?_
  ·refine .g 9 rfl<|.fi rfl rfl
  ·refine .g 10 rfl<|.fi rfl rfl
instance dyad_Half_i (a0:Int):PC (dyad_Half a0) Tryz.prog 33 [(.int .i64 a0)] (fun r=>(.agg (kD.enc (⟨((r).M),(r).E⟩:AD)))):=pc func33 (by kernel_rfl) rfl fun E=>by
 unfold dyad_Half
 refine .g 7 rfl<|.p0 rfl rfl fun x3 _=>.g 1 rfl<|.p0 rfl rfl fun x4 _=>.g 15 rfl<|.fi rfl rfl
instance gamm_fits_i (a0:AD) (a1:Int):PC (gamm_fits a0 a1) Tryz.prog 135 [(.agg (kD.enc a0)),(.int .i64 a1)] (fun r=>(.int .i64 r)):=pc func135 (by kernel_rfl) rfl fun E=>by
 unfold gamm_fits
 refine .g 9 rfl<|?_
 refine .cut (fun x:Bool=>(gamm_fits_j1 a0 x,[eP 2 0,eB 5 x],[(0,(.live 26 [(.bool a0.M.Neg),(slK (kInt .u32) a0.M.Mag),(.int .i64 a0.E)]))])) ?_ ?_
 ·rintro y48
  dsimp only [gamm_fits_j1]
  refine .g 1 rfl<|?_
  refine .cd rfl (fun _ _=>?_) fun _ _=>?_
  ·refine .g 8 rfl<|.fi rfl rfl
  ·refine .g 4 rfl<|.p0 rfl rfl fun x49 _=>.g 4 rfl<|?_
   refine .cd rfl (fun _ _=>?_) fun _ _=>?_
   ·refine .g 8 rfl<|.fi rfl rfl
   ·refine .g 1 rfl<|?_
    refine .cut (fun x:Bool=>(gamm_fits_j2 x,[eB 29 x],[])) ?_ ?_
    ·rintro y54
     dsimp only [gamm_fits_j2]
     refine .g 1 rfl<|?_
     refine .cd rfl (fun _ _=>?_) fun _ _=>?_
     ·refine .g 8 rfl<|.fi rfl rfl
     ·refine .g 9 rfl<|.fi rfl rfl
    ·intro h45
     refine .g 2 rfl<|.p0 rfl rfl fun x55 _=>.p0 rfl rfl fun x56 _=>.g 2 rfl<|?_
     refine .gd 34 rfl (fun _=>?_) fun _=>?_
     ·refine .g 6 rfl<|.dn (by kernel_rfl)<|.jw (h45 true) [] rfl
     ·refine .g 1 rfl<|.p0 rfl rfl fun x57 _=>.p0 rfl rfl fun x58 _=>.g 3 rfl<|.dn (by kernel_rfl)<|.jw (h45 (decide (x58<0))) [] rfl
 ·intro h51
  refine .g 4 rfl<|?_
  refine .gd 8 rfl (fun _=>?_) fun _=>?_
  ·refine .g 17 rfl<|.jw (h51 true) [(0,0)] rfl
  ·refine .g 4 rfl<|?_
   refine .gd 12 rfl (fun _=>?_) fun _=>?_
   ·refine .g 13 rfl<|.jw (h51 true) [(0,0)] rfl
   ·refine .g 1 rfl<|.p0 rfl rfl fun x59 _=>.g 3 rfl<|?_
    refine .gd 17 rfl (fun _=>?_) fun _=>?_
    ·refine .g 8 rfl<|.jw (h51 true) [(0,0)] rfl
    ·refine .g 3 rfl<|.p0 rfl rfl fun x60 _=>.g 4 rfl<|.jw (h51 (decide (x60>200))) [(0,0)] rfl
instance dyad_fault_must_i (a0:Bool) (a1:Int) (a2:Int) (a3:Bool) (a4:List Int) (a5:Int):CC (dyad_fault_must a0 a1 a2 a3 a4 a5) Tryz.prog 79 [(.ptr 0 0),(.bool a0),(.int .i64 a1)] [(.live 87 [(.int .i64 a2),(.bool a3),(slK (kInt .u32) a4),(.int .i64 a5)])] (fun r=>(.bool r.1)) (fun r=>[(.live 87 [(.int .i64 r.2),(.bool a3),(slK (kInt .u32) a4),(.int .i64 a5)])]):=cc func79 (by kernel_rfl) rfl fun E=>by
 unfold dyad_fault_must
 refine .g 7 rfl<|?_
 refine .cut (fun x:Bool=>(dyad_fault_must_j1 a1 a2 x,[eP 0 0,eI 2 a1,eB 15 x],[(0,(.live 87 [(.int .i64 a2),(.bool a3),(slK (kInt .u32) a4),(.int .i64 a5)]))])) ?_ ?_
 ·rintro y3
  dsimp only [dyad_fault_must_j1]
  refine .g 1 rfl<|?_
  refine .cut (fun x:Int=>(dyad_fault_must_j2 x,[eP 0 0],[(0,(.live 87 [(.int .i64 x),(.bool a3),(slK (kInt .u32) a4),(.int .i64 a5)]))])) ?_ ?_
  ·rintro y4
   dsimp only [dyad_fault_must_j2]
   refine .g 12 rfl<|.fi rfl rfl
  ·intro h4
   refine .cd rfl (fun _ _=>?_) fun _ _=>?_
   ·refine .g 7 rfl<|.jw (h4 a1) [(0,0)] rfl
   ·refine .g 1 rfl<|.jw (h4 a2) [(0,0)] rfl
 ·intro h7
  refine .g 4 rfl<|?_
  refine .gd 9 rfl (fun _=>?_) fun _=>?_
  ·refine .g 7 rfl<|.jw (h7 (a2 == 0)) [(0,0)] rfl
  ·refine .g 7 rfl<|.jw (h7 false) [(0,0)] rfl
instance dw_right_i (a0:List AD) (a1:Int) (a2:Bool) (a3:List Int) (a4:Int):CC (dw_right a0 a1 a2 a3 a4) Tryz.prog 78 [(.ptr 0 0),(slK kD a0)] [(.live 87 [(.int .i64 a1),(.bool a2),(slK (kInt .u32) a3),(.int .i64 a4)])] (fun r=>(.bool r.1)) (fun r=>[(.live 87 [(.int .i64 r.2),(.bool a2),(slK (kInt .u32) a3),(.int .i64 a4)])]):=cc func78 (by kernel_rfl) rfl fun E=>by
 unfold dw_right
 refine .g 9 rfl<|.ln rfl rfl<|.g 3 rfl<|?_
 refine .cut (fun x:Int=>(dw_right_j1 x,[eP 0 0],[(0,(.live 87 [(.int .i64 x),(.bool a2),(slK (kInt .u32) a3),(.int .i64 a4)]))])) ?_ ?_
 ·rintro y50
  dsimp only [dw_right_j1]
  refine .g 13 rfl<|.fi rfl rfl
 ·intro h25
  refine .g 1 rfl<|?_
  refine .lp (fun n (x:Int × Int)=>dw_right_l2 a0 a2 a3 a4 n x.1 x.2) (fun x=>([eP 0 0,eK kD 7 a0,eI 8 (a0.length:Int),eI 9 x.1],[(0,(.live 87 [(.int .i64 x.2),(.bool a2),(slK (kInt .u32) a3),(.int .i64 a4)]))])) (0,a1) [(0,0)] rfl ?_
  rintro n2 ⟨y61,y62⟩
  try dsimp only
  rw [dw_right_l2]
  refine .g 6 rfl<|?_
  refine .cd rfl (fun _ _=>?_) fun _ _=>?_
  ·refine .g 6 rfl<|.ix rfl rfl<|.g 10 rfl<|.p0 rfl rfl fun x65 _=>.bind fun x66 h49=>.st rfl (cl (CC.h h49) [0] [] [true] rfl (.p rfl<|.b<|.i<|.nil) (.p rfl (.i<|.b<|.l<|.i<|.nil) .nil) fnil (.cons (.v (.i<|.b<|.l<|.i<|.nil)) .nil) (.bool _) (.turned .nil) rfl) rfl<|.dn (by kernel_rfl)<|.g 6 rfl<|.ag ((IntKind.i64.wrap (y61+1)),x66.2) [(0,0)] rfl
  ·refine .g 4 rfl<|.jw (h25 y62) [(0,0)] rfl
instance zint_Shift_i (a0:ApiInt) (a1:Int):PC (zint_Shift a0 a1) Tryz.prog 210 [(.agg (kN.enc a0)),(.int .i64 a1)] (fun r=>(.tup [(.agg (kN.enc (r.1))),(.bool r.2)])):=pc func210 (by kernel_rfl) rfl fun E=>by
 unfold zint_Shift
 refine .g 9 rfl<|?_
 refine .cut (fun x:Bool=>(zint_Shift_j1 a0 a1 x,[eI 1 a1,eP 2 0,eP 4 1,eB 17 x],[(0,(.live 24 [(.bool a0.Neg),(slK (kInt .u32) a0.Mag)])),(1,(.live 24 [(.bool false),(slK (kInt .u32) [])]))])) ?_ ?_
 ·rintro y18
  dsimp only [zint_Shift_j1]
  refine .g 1 rfl<|?_
  refine .cd rfl (fun _ _=>?_) fun _ _=>?_
  ·refine .g 9 rfl<|.fi rfl rfl
  ·refine .g 5 rfl<|.p0 rfl rfl fun x19 _=>.g 11 rfl<|?_
   refine .cd rfl (fun _ _=>?_) fun _ _=>?_
   ·refine .g 6 rfl<|.p0 rfl rfl fun x20 _=>.g 12 rfl<|.p0 rfl rfl fun x21 _=>.g 6 rfl<|.fi rfl rfl
   ·refine .g 17 rfl<|?_
    refine .cut (fun x:(List Int)=>(zint_Shift_j2 a1 x19 x,[eI 1 a1,eP 4 1,eP 6 2,eL 9 x],[(1,(.live 24 [(.bool false),(slK (kInt .u32) [])])),(2,(.live 156 [(slK (kInt .u32) (((x19).size).mag)),(.bool ((x19).neg))]))])) ?_ ?_
    ·rintro y27
     dsimp only [zint_Shift_j2]
     refine .g 8 rfl<|.p0 rfl rfl fun x28 _=>.p0 rfl rfl fun x29 _=>.g 2 rfl<|.dn (by kernel_rfl)<|.g 2 rfl<|.fi rfl rfl
    ·intro h18
     refine .cd rfl (fun _ _=>?_) fun _ _=>?_
     ·refine .g 2 rfl<|.p0 rfl rfl fun x30 _=>.g 2 rfl<|.p0 rfl rfl fun x31 _=>.g 10 rfl<|.p0 rfl rfl fun x32 _=>.p0 rfl rfl fun x33 _=>.g 9 rfl<|.p0 rfl rfl fun x34 _=>.g 2 rfl<|.jw (h18 x34) [(1,1),(2,2)] rfl
     ·refine .g 1 rfl<|.jw (h18 ((x19).size).mag) [(1,1),(2,2)] rfl
 ·intro h26
  refine .g 4 rfl<|?_
  refine .gd 14 rfl (fun _=>?_) fun _=>?_
  ·refine .g 4 rfl<|.jw (h26 true) [(0,0),(1,1)] rfl
  ·refine .g 4 rfl<|.jw (h26 (decide (a1>100000))) [(0,0),(1,1)] rfl
instance dyad_Floor_i (a0:AD):PC (dyad_Floor a0) Tryz.prog 136 [(.agg (kD.enc a0))] (fun r=>(.tup [(.agg (kN.enc (r.1))),(.int .i64 r.2)])):=pc func136 (by kernel_rfl) rfl fun E=>by
 unfold dyad_Floor
 refine .g 17 rfl<|?_
 refine .cut (fun x:Bool × Int=>(dyad_Floor_j1 a0 x.1 x.2,[eP 1 0,eP 2 1,eP 4 2,eB 23 x.1],[(0,(.live 26 [(.bool a0.M.Neg),(slK (kInt .u32) a0.M.Mag),(.int .i64 a0.E)])),(1,(.live 24 [(.bool false),(slK (kInt .u32) [])])),(2,(.live 87 [(.int .i64 x.2),(.bool a0.M.Neg),(slK (kInt .u32) a0.M.Mag),(.int .i64 a0.E)]))])) ?_ ?_
 ·rintro ⟨y40,y41⟩
  dsimp only [dyad_Floor_j1]
  refine .g 1 rfl<|?_
  refine .cd rfl (fun _ _=>?_) fun _ _=>?_
  ·refine .g 10 rfl<|.dn (by kernel_rfl)<|.g 3 rfl<|.fi rfl rfl
  ·refine .g 10 rfl<|?_
   refine .cd rfl (fun _ _=>?_) fun _ _=>?_
   ·refine .g 10 rfl<|.p0 rfl rfl fun x42 _=>.p0 rfl rfl fun x43 _=>.g 2 rfl<|.dn (by kernel_rfl)<|.g 3 rfl<|.fi rfl rfl
   ·refine .g 19 rfl<|?_
    refine .cut (fun x:Bool × (List Int)=>(dyad_Floor_j2 x.1 x.2,[eP 2 1,eP 5 3],[(1,(.live 24 [(.bool false),(slK (kInt .u32) [])])),(3,(.live 24 [(.bool x.1),(slK (kInt .u32) x.2)]))])) ?_ ?_
    ·rintro ⟨y56,y57⟩
     dsimp only [dyad_Floor_j2]
     refine .g 9 rfl<|.fi rfl rfl
    ·intro h23
     refine .g 1 rfl<|?_
     refine .lp (fun n (x:Int × Bool × (List Int))=>dyad_Floor_l3 n x.1 x.2.1 x.2.2) (fun x=>([eP 2 1,eP 5 3,eI 6 x.1],[(1,(.live 24 [(.bool false),(slK (kInt .u32) [])])),(3,(.live 24 [(.bool x.2.1),(slK (kInt .u32) x.2.2)]))])) ((IntKind.i64.wrap (0-a0.E)),a0.M.Neg,a0.M.Mag) [(1,1),(3,3)] rfl ?_
     rintro n3 ⟨y65,y66,y67⟩
     try dsimp only
     rw [dyad_Floor_l3]
     refine .g 7 rfl<|?_
     refine .cd rfl (fun _ _=>?_) fun _ _=>?_
     ·refine .g 9 rfl<|.p0 rfl rfl fun x69 _=>.g 12 rfl<|.ag ((IntKind.i64.wrap (y65-100000)),(x69.1).Neg,(x69.1).Mag) [(1,1),(3,3)] rfl
     ·refine .g 4 rfl<|.jw (h23 (y66,y67)) [(1,1),(3,3)] rfl
 ·intro h36
  refine .g 3 rfl<|.st rfl (bs kD [a0] rfl rfl) rfl<|.bind fun x70 h37=>.st rfl (cl (CC.h h37) [2] [] [true] rfl (.p rfl<|.l<|.nil) (.p rfl (.i<|.b<|.l<|.i<|.nil) .nil) fnil (.cons (.v (.i<|.b<|.l<|.i<|.nil)) .nil) (.bool _) (.turned .nil) rfl) rfl<|.g 2 rfl<|?_
  refine .gd 15 rfl (fun _=>?_) fun _=>?_
  ·refine .g 8 rfl<|.dn (by kernel_rfl)<|.jw (h36 (true,x70.2)) [(0,0),(1,1),(2,2)] rfl
  ·refine .g 4 rfl<|.p0 rfl rfl fun x71 _=>.bind fun x72 h40=>.st rfl (cl (CC.h h40) [2] [] [true] rfl (.p rfl<|.b<|.i<|.nil) (.p rfl (.i<|.b<|.l<|.i<|.nil) .nil) fnil (.cons (.v (.i<|.b<|.l<|.i<|.nil)) .nil) (.bool _) (.turned .nil) rfl) rfl<|.g 2 rfl<|.dn (by kernel_rfl)<|.jw (h36 ((!x72.1),x72.2)) [(0,0),(1,1),(2,2)] rfl
instance nat_Small_i (a0:List Int):PC (nat_Small a0) Tryz.prog 211 [(slK (kInt .u32) a0)] (fun r=>(.tup [(.int .u64 r.1),(.bool r.2)])):=pc func211 (by kernel_rfl) rfl fun E=>by
 unfold nat_Small
 refine .g 9 rfl<|.p0 rfl rfl fun x2 _=>.g 7 rfl<|.ln rfl rfl<|.g 9 rfl<|?_
 refine .cd rfl (fun _ _=>?_) fun _ _=>?_
 ·refine .g 9 rfl<|.fi rfl rfl
 ·refine .g 6 rfl<|?_
  refine .cd rfl (fun _ _=>?_) fun _ _=>?_
  ·refine .g 3 rfl<|.ix rfl rfl<|.g 9 rfl<|.fi rfl rfl
  ·refine .g 6 rfl<|?_
   refine .cd rfl (fun _ _=>?_) fun _ _=>?_
   ·refine .g 3 rfl<|.ix rfl rfl<|.g 4 rfl<|.ix rfl rfl<|.g 5 rfl<|.dn (by kernel_rfl)<|.g 4 rfl<|.fi rfl rfl
   ·refine .g 10 rfl<|.fi rfl rfl
instance zint_Small_i (a0:ApiInt):PC (zint_Small a0) Tryz.prog 137 [(.agg (kN.enc a0))] (fun r=>(.tup [(.int .i64 r.1),(.bool r.2)])):=pc func137 (by kernel_rfl) rfl fun E=>by
 unfold zint_Small
 refine .g 10 rfl<|.p0 rfl rfl fun x7 _=>.g 9 rfl<|.p0 rfl rfl fun x8 _=>.g 10 rfl<|?_
 refine .cut (fun x:Bool=>(zint_Small_j1 x8 x7 x,[eP 4 1,eX 5 x8.1,eB 6 x8.2,eB 16 x],[(1,(.live 156 [(slK (kInt .u32) (((x7).size).mag)),(.bool ((x7).neg))]))])) ?_ ?_
 ·rintro y11
  dsimp only [zint_Small_j1]
  refine .g 1 rfl<|?_
  refine .cd rfl (fun _ _=>?_) fun _ _=>?_
  ·refine .g 12 rfl<|.fi rfl rfl
  ·refine .g 1 rfl<|?_
   refine .cut (fun x:Bool=>(zint_Small_j2 x8 x,[eX 5 x8.1,eB 29 x],[])) ?_ ?_
   ·rintro y12
    dsimp only [zint_Small_j2]
    refine .g 1 rfl<|?_
    refine .cd rfl (fun _ _=>?_) fun _ _=>?_
    ·refine .g 11 rfl<|.fi rfl rfl
    ·refine .g 10 rfl<|.fi rfl rfl
   ·intro h23
    refine .g 3 rfl<|?_
    refine .gd 31 rfl (fun _=>?_) fun _=>?_
    ·refine .g 5 rfl<|?_
     refine .gd 36 rfl (fun _=>?_) fun _=>?_
     ·refine .g 5 rfl<|.jw (h23 (decide (x8.1<9223372036854775808))) [] rfl
     ·refine .g 5 rfl<|.jw (h23 false) [] rfl
    ·refine .g 10 rfl<|.jw (h23 false) [] rfl
 ·intro h26
  refine .g 3 rfl<|?_
  refine .gd 18 rfl (fun _=>?_) fun _=>?_
  ·refine .g 4 rfl<|?_
   refine .gd 22 rfl (fun _=>?_) fun _=>?_
   ·refine .g 5 rfl<|.jw (h26 (decide (x8.1≤9223372036854775808))) [(1,1)] rfl
   ·refine .g 5 rfl<|.jw (h26 false) [(1,1)] rfl
  ·refine .g 9 rfl<|.jw (h26 false) [(1,1)] rfl
instance gamm_Lift_i (a0:AD):PC (gamm_Lift a0) Tryz.prog 58 [(.agg (kD.enc a0))] (fun r=>(.tup [(.int .i64 r.1),(.int .i64 r.2)])):=pc func58 (by kernel_rfl) rfl fun E=>by
 unfold gamm_Lift
 refine .g 11 rfl<|.p0 rfl rfl fun x4 _=>.g 9 rfl<|?_
 refine .cd rfl (fun _ _=>?_) fun _ _=>?_
 ·refine .g 9 rfl<|.fi rfl rfl
 ·refine .g 5 rfl<|.p0 rfl rfl fun x5 _=>.g 11 rfl<|.p0 rfl rfl fun x6 _=>.g 16 rfl<|.fi rfl rfl
instance iv_New_i (a0:Int):CC (iv_New a0) Tryz.prog 17 [(.int .i64 a0)] [] (fun r=>(match r with | (Sum.inl y)=>(.tup [.nilptr,(.int .i64 y)]) | (Sum.inr y)=>(.tup [(.ptr 0 0),(.int .i64 y.1)]))) (fun r=>(match r with | (Sum.inl y)=>[.dead] | (Sum.inr y)=>[(.live 47 [(.int .i64 y.2.1),(.int .i64 y.2.2)])])):=cc func17 (by kernel_rfl) rfl fun E=>by
 unfold iv_New
 refine .g 8 rfl<|?_
 refine .cut (fun x:Bool=>(iv_New_j1 a0 x,[eI 0 a0,eB 9 x],[])) ?_ ?_
 ·rintro y2
  dsimp only [iv_New_j1]
  refine .g 1 rfl<|?_
  refine .cd rfl (fun _ _=>?_) fun _ _=>?_
  ·refine .g 8 rfl<|.fi rfl rfl
  ·refine .g 12 rfl<|.fi rfl rfl
 ·intro h4
  refine .g 4 rfl<|?_
  refine .gd 6 rfl (fun _=>?_) fun _=>?_
  ·refine .g 4 rfl<|.jw (h4 true) [] rfl
  ·refine .g 4 rfl<|.jw (h4 (decide (a0>400))) [] rfl
theorem iv_New_k_0 {a0:Int} {r:Int} (h:iv_New a0=some (Sum.inl r)):Cal Tryz.prog 17 [(.int .i64 a0)] [] (.tup [.nilptr,(.int .i64 r)]) [.dead]:=CC.h h
theorem iv_New_k_1 {a0:Int} {r:Int × Int × Int} (h:iv_New a0=some (Sum.inr r)):Cal Tryz.prog 17 [(.int .i64 a0)] [] (.tup [(.ptr 0 0),(.int .i64 r.1)]) [(.live 47 [(.int .i64 r.2.1),(.int .i64 r.2.2)])]:=CC.h h
instance gamm_begin_i (a0:Int):CC (gamm_begin a0) Tryz.prog 139 [(.int .i64 a0)] [] (fun r=>(match r with | (Sum.inl y)=>(.ptr 1 0) | (Sum.inr y)=>(.ptr 1 0))) (fun r=>(match r with | (Sum.inl y)=>[.dead,(.live 188 [.nilptr,(.int .i64 y)])] | (Sum.inr y)=>[(.live 47 [(.int .i64 y.1),(.int .i64 y.2.1)]),(.live 188 [(.ptr 0 0),(.int .i64 y.2.2)])])):=cc func139 (by kernel_rfl) rfl fun E=>by
 unfold gamm_begin
 refine .g 8 rfl<|.bind fun x4 h1=>?_
 rcases x4 with x5 | x6
 ·dsimp only
  refine .st rfl (cl (iv_New_k_0 h1) [] [0] [true] rfl (.i<|.nil) .nil (fresh_cons rfl fnil) (.cons .dead .nil) (ren_tupL (.cons .nilptr<|.i<|.nil)) (.turned .nil) rfl) rfl<|.g 16 rfl<|.fi rfl rfl
 ·dsimp only
  refine .st rfl (cl (iv_New_k_1 h1) [] [0] [true] rfl (.i<|.nil) .nil (fresh_cons rfl fnil) (.cons (.v (.i<|.i<|.nil)) .nil) (ren_tupL (.p rfl<|.i<|.nil)) (.turned .nil) rfl) rfl<|.g 16 rfl<|.fi rfl rfl
theorem gamm_begin_k_0 {a0:Int} {r:Int} (h:gamm_begin a0=some (Sum.inl r)):Cal Tryz.prog 139 [(.int .i64 a0)] [] (.ptr 1 0) [.dead,(.live 188 [.nilptr,(.int .i64 r)])]:=CC.h h
theorem gamm_begin_k_1 {a0:Int} {r:Int × Int × Int} (h:gamm_begin a0=some (Sum.inr r)):Cal Tryz.prog 139 [(.int .i64 a0)] [] (.ptr 1 0) [(.live 47 [(.int .i64 r.1),(.int .i64 r.2.1)]),(.live 188 [(.ptr 0 0),(.int .i64 r.2.2)])]:=CC.h h
instance iv_Right_i (a0:AI):PC (iv_Right a0) Tryz.prog 71 [(.agg (kI.enc a0))] (fun r=>(.bool r)):=pc func71 (by kernel_rfl) rfl fun E=>by
 unfold iv_Right
 refine .g 7 rfl<|?_
 refine .cut (fun x:Bool=>(iv_Right_j1 x,[eB 2 x],[])) ?_ ?_
 ·rintro y11
  dsimp only [iv_Right_j1]
  refine .g 2 rfl<|.fi rfl rfl
 ·intro h6
  refine .g 3 rfl<|.p0 rfl rfl fun x12 _=>.g 1 rfl<|?_
  refine .gd 6 rfl (fun _=>?_) fun _=>?_
  ·refine .g 2 rfl<|.p0 rfl rfl fun x13 _=>.g 2 rfl<|?_
   refine .gd 11 rfl (fun _=>?_) fun _=>?_
   ·refine .g 4 rfl<|.p0 rfl rfl fun x14 _=>.g 4 rfl<|.jw (h6 (decide (x14≤0))) [] rfl
   ·refine .g 9 rfl<|.jw (h6 false) [] rfl
  ·refine .g 14 rfl<|.jw (h6 false) [] rfl
instance iv_trouble_note_i (a0:Int) (a1:Int) (a2:Int):CC (iv_trouble_note a0 a1 a2) Tryz.prog 86 [(.ptr 0 0),(.int .i64 a0)] [(.live 47 [(.int .i64 a1),(.int .i64 a2)])] (fun r=>(.bool r.1)) (fun r=>[(.live 47 [(.int .i64 r.2),(.int .i64 a2)])]):=cc func86 (by kernel_rfl) rfl fun E=>by
 unfold iv_trouble_note
 refine .g 15 rfl<|?_
 refine .cut (fun x:Int=>(iv_trouble_note_j1 x,[eP 0 0],[(0,(.live 47 [(.int .i64 x),(.int .i64 a2)]))])) ?_ ?_
 ·rintro y2
  dsimp only [iv_trouble_note_j1]
  refine .g 12 rfl<|.fi rfl rfl
 ·intro h3
  refine .cd rfl (fun _ _=>?_) fun _ _=>?_
  ·refine .g 7 rfl<|.jw (h3 a0) [(0,0)] rfl
  ·refine .g 1 rfl<|.jw (h3 a1) [(0,0)] rfl
instance cv_fine_i (a0:List AI) (a1:Int) (a2:Int):CC (cv_fine a0 a1 a2) Tryz.prog 84 [(.ptr 0 0),(slK kI a0)] [(.live 47 [(.int .i64 a1),(.int .i64 a2)])] (fun r=>(.bool r.1)) (fun r=>[(.live 47 [(.int .i64 r.2),(.int .i64 a2)])]):=cc func84 (by kernel_rfl) rfl fun E=>by
 unfold cv_fine
 refine .g 9 rfl<|.ln rfl rfl<|.g 3 rfl<|?_
 refine .cut (fun x:Int=>(cv_fine_j1 x,[eP 0 0],[(0,(.live 47 [(.int .i64 x),(.int .i64 a2)]))])) ?_ ?_
 ·rintro y122
  dsimp only [cv_fine_j1]
  refine .g 13 rfl<|.fi rfl rfl
 ·intro h61
  refine .g 1 rfl<|?_
  refine .lp (fun n (x:Int × Int)=>cv_fine_l2 a0 a2 n x.1 x.2) (fun x=>([eP 0 0,eK kI 7 a0,eI 8 (a0.length:Int),eI 9 x.1],[(0,(.live 47 [(.int .i64 x.2),(.int .i64 a2)]))])) (0,a1) [(0,0)] rfl ?_
  rintro n2 ⟨y149,y150⟩
  try dsimp only
  rw [cv_fine_l2]
  refine .g 6 rfl<|?_
  refine .cd rfl (fun _ _=>?_) fun _ _=>?_
  ·refine .g 6 rfl<|.ix rfl rfl<|.g 6 rfl<|?_
   refine .cut (fun x:Bool × Int=>(cv_fine_j3 (fun z0 z1=>cv_fine_l2 a0 a2 n2 z0 z1) y149 x.1 x.2,[eP 0 0,eK kI 7 a0,eI 8 (a0.length:Int),eI 9 y149,eB 22 x.1],[(0,(.live 47 [(.int .i64 x.2),(.int .i64 a2)]))])) ?_ ?_
   ·rintro ⟨y159,y160⟩
    dsimp only [cv_fine_j3]
    refine .g 1 rfl<|?_
    refine .cd rfl (fun _ _=>?_) fun _ _=>?_
    ·refine .g 5 rfl<|.jw (h61 y160) [(0,0)] rfl
    ·refine .g 7 rfl<|.ag ((IntKind.i64.wrap (y149+1)),y160) [(0,0)] rfl
   ·intro h119
    refine .g 2 rfl<|.p0 rfl rfl fun x161 _=>.g 2 rfl<|?_
    refine .gd 16 rfl (fun _=>?_) fun _=>?_
    ·refine .g 3 rfl<|.bind fun x162 h122=>.st rfl (cl (CC.h h122) [0] [] [true] rfl (.p rfl<|.i<|.nil) (.p rfl (.i<|.i<|.nil) .nil) fnil (.cons (.v (.i<|.i<|.nil)) .nil) (.bool _) (.turned .nil) rfl) rfl<|.g 3 rfl<|.jw (h119 ((!x162.1),x162.2)) [(0,0)] rfl
    ·refine .g 7 rfl<|.jw (h119 (false,y150)) [(0,0)] rfl
  ·refine .g 4 rfl<|.jw (h61 y150) [(0,0)] rfl
instance cv_Point_i (a0:AD) (a1:Int) (a2:Int):CC (cv_Point a0 a1 a2) Tryz.prog 43 [(.ptr 0 0),(.agg (kD.enc a0))] [(.live 47 [(.int .i64 a1),(.int .i64 a2)])] (fun r=>(.agg (kI.enc (⟨⟨(((r.1).Lo).M),((r.1).Lo).E⟩,⟨(((r.1).Hi).M),((r.1).Hi).E⟩⟩:AI)))) (fun r=>[(.live 47 [(.int .i64 r.2),(.int .i64 a2)])]):=cc func43 (by kernel_rfl) rfl fun E=>by
 unfold cv_Point
 refine .g 20 rfl<|.st rfl (bs kI [(⟨a0,a0⟩:AI)] rfl rfl) rfl<|.bind fun x2 h1=>.st rfl (cl (CC.h h1) [0] [] [true] rfl (.p rfl<|.l<|.nil) (.p rfl (.i<|.i<|.nil) .nil) fnil (.cons (.v (.i<|.i<|.nil)) .nil) (.bool _) (.turned .nil) rfl) rfl<|.g 3 rfl<|?_
 refine .cd rfl (fun _ _=>?_) fun _ _=>?_
 ·refine .g 8 rfl<|.fi rfl rfl
 ·refine .g 9 rfl<|.fi rfl rfl
instance cv_Int_i (a0:Int) (a1:Int) (a2:Int):CC (cv_Int a0 a1 a2) Tryz.prog 26 [(.ptr 0 0),(.int .i64 a0)] [(.live 47 [(.int .i64 a1),(.int .i64 a2)])] (fun r=>(.agg (kI.enc (⟨⟨(((r.1).Lo).M),((r.1).Lo).E⟩,⟨(((r.1).Hi).M),((r.1).Hi).E⟩⟩:AI)))) (fun r=>[(.live 47 [(.int .i64 r.2),(.int .i64 a2)])]):=cc func26 (by kernel_rfl) rfl fun E=>by
 unfold cv_Int
 refine .g 9 rfl<|.p0 rfl rfl fun x3 _=>.bind fun x4 h2=>.st rfl (cl (CC.h h2) [0] [] [true] rfl (.p rfl<|.a kD<|.nil) (.p rfl (.i<|.i<|.nil) .nil) fnil (.cons (.v (.i<|.i<|.nil)) .nil) (ren_agg (K:=kI) _) (.turned .nil) rfl) rfl<|.g 4 rfl<|.fi rfl rfl
instance dw_told_i (a0:Int) (a1:Bool) (a2:List Int) (a3:Int):CC (dw_told a0 a1 a2 a3) Tryz.prog 82 [(.ptr 0 0)] [(.live 87 [(.int .i64 a0),(.bool a1),(slK (kInt .u32) a2),(.int .i64 a3)])] (fun r=>(.tup [(.agg (kD.enc (⟨((r.1).M),(r.1).E⟩:AD))),(.int .i64 r.2.1)])) (fun r=>[(.live 87 [(.int .i64 r.2.2),(.bool a1),(slK (kInt .u32) a2),(.int .i64 a3)])]):=cc func82 (by kernel_rfl) rfl fun E=>by
 unfold dw_told
 refine .g 8 rfl<|?_
 refine .cut (fun x:Bool × Int=>(dw_told_j1 a1 a2 a3 x.1 x.2,[eP 0 0,eP 2 1,eB 21 x.1],[(0,(.live 87 [(.int .i64 x.2),(.bool a1),(slK (kInt .u32) a2),(.int .i64 a3)])),(1,(.live 26 [(.bool false),(slK (kInt .u32) []),(.int .i64 0)]))])) ?_ ?_
 ·rintro ⟨y12,y13⟩
  dsimp only [dw_told_j1]
  refine .g 1 rfl<|?_
  refine .cd rfl (fun _ _=>?_) fun _ _=>?_
  ·refine .g 10 rfl<|.dn (by kernel_rfl)<|.g 3 rfl<|.fi rfl rfl
  ·refine .g 13 rfl<|.fi rfl rfl
 ·intro h7
  refine .g 11 rfl<|?_
  refine .gd 13 rfl (fun _=>?_) fun _=>?_
  ·refine .g 6 rfl<|.bind fun x14 h9=>.st rfl (cl (CC.h h9) [0] [] [true] rfl (.p rfl<|.b<|.i<|.nil) (.p rfl (.i<|.b<|.l<|.i<|.nil) .nil) fnil (.cons (.v (.i<|.b<|.l<|.i<|.nil)) .nil) (.bool _) (.turned .nil) rfl) rfl<|.g 1 rfl<|.dn (by kernel_rfl)<|.jw (h7 ((!x14.1),x14.2)) [(0,0),(1,1)] rfl
  ·refine .g 4 rfl<|.p0 rfl rfl fun x15 _=>.g 1 rfl<|.bind fun x16 h11=>.st rfl (cl (CC.h h11) [0] [] [true] rfl (.p rfl<|.b<|.i<|.nil) (.p rfl (.i<|.b<|.l<|.i<|.nil) .nil) fnil (.cons (.v (.i<|.b<|.l<|.i<|.nil)) .nil) (.bool _) (.turned .nil) rfl) rfl<|.g 1 rfl<|.dn (by kernel_rfl)<|.jw (h7 ((!x16.1),x16.2)) [(0,0),(1,1)] rfl
instance dyad_Add_i (a0:AD) (a1:AD):PC (dyad_Add a0 a1) Tryz.prog 59 [(.agg (kD.enc a0)),(.agg (kD.enc a1))] (fun r=>(.tup [(.agg (kD.enc (⟨((r.1).M),(r.1).E⟩:AD))),(.int .i64 r.2)])):=pc func59 (by kernel_rfl) rfl fun E=>by
 unfold dyad_Add
 refine .g 21 rfl<|.st rfl (bs kD [a0,a1] rfl rfl) rfl<|.bind fun x8 h1=>.st rfl (cl (CC.h h1) [3] [] [true] rfl (.p rfl<|.l<|.nil) (.p rfl (.i<|.b<|.l<|.i<|.nil) .nil) fnil (.cons (.v (.i<|.b<|.l<|.i<|.nil)) .nil) (.bool _) (.turned .nil) rfl) rfl<|.g 2 rfl<|?_
 refine .cut (fun x:Bool × (List Int) × Int=>(dyad_Add_j1 x8 x.1 x.2.1 x.2.2,[eP 4 2,eP 6 3],[(2,(.live 26 [(.bool false),(slK (kInt .u32) []),(.int .i64 0)])),(3,(.live 87 [(.int .i64 x8.2),(.bool x.1),(slK (kInt .u32) x.2.1),(.int .i64 x.2.2)]))])) ?_ ?_
 ·rintro ⟨y10,y11,y12⟩
  dsimp only [dyad_Add_j1]
  refine .g 4 rfl<|.bind fun x13 h5=>.st rfl (cl (CC.h h5) [3] [] [true] rfl (.p rfl<|.nil) (.p rfl (.i<|.b<|.l<|.i<|.nil) .nil) fnil (.cons (.v (.i<|.b<|.l<|.i<|.nil)) .nil) (ren_tupL (.a kD<|.i<|.nil)) (.turned .nil) rfl) rfl<|.g 7 rfl<|.fi rfl rfl
 ·intro h6
  refine .cd rfl (fun _ _=>?_) fun _ _=>?_
  ·refine .g 4 rfl<|.p0 rfl rfl fun x14 _=>.g 4 rfl<|.jw (h6 (((x14).M).Neg,((x14).M).Mag,(x14).E)) [(2,2),(3,3)] rfl
  ·refine .g 1 rfl<|.jw (h6 (false,[],0)) [(2,2),(3,3)] rfl
instance cv_take_i (a0:AD) (a1:Int) (a2:Int) (a3:Int):CC (cv_take a0 a1 a2 a3) Tryz.prog 87 [(.ptr 0 0),(.agg (kD.enc a0)),(.int .i64 a1)] [(.live 47 [(.int .i64 a2),(.int .i64 a3)])] (fun r=>(.agg (kD.enc (⟨((r.1).M),(r.1).E⟩:AD)))) (fun r=>[(.live 47 [(.int .i64 r.2),(.int .i64 a3)])]):=cc func87 (by kernel_rfl) rfl fun E=>by
 unfold cv_take
 refine .g 13 rfl<|.bind fun x2 h1=>.st rfl (cl (CC.h h1) [0] [] [true] rfl (.p rfl<|.i<|.nil) (.p rfl (.i<|.i<|.nil) .nil) fnil (.cons (.v (.i<|.i<|.nil)) .nil) (.bool _) (.turned .nil) rfl) rfl<|.g 3 rfl<|?_
 refine .cd rfl (fun _ _=>?_) fun _ _=>?_
 ·refine .g 8 rfl<|.fi rfl rfl
 ·refine .g 9 rfl<|.fi rfl rfl
instance cv_sum_i (a0:AD) (a1:AD) (a2:Int) (a3:Int):CC (cv_sum a0 a1 a2 a3) Tryz.prog 93 [(.ptr 0 0),(.agg (kD.enc a0)),(.agg (kD.enc a1))] [(.live 47 [(.int .i64 a2),(.int .i64 a3)])] (fun r=>(.agg (kD.enc (⟨((r.1).M),(r.1).E⟩:AD)))) (fun r=>[(.live 47 [(.int .i64 r.2),(.int .i64 a3)])]):=cc func93 (by kernel_rfl) rfl fun E=>by
 unfold cv_sum
 refine .g 18 rfl<|?_
 refine .cd rfl (fun _ _=>?_) fun _ _=>?_
 ·refine .g 8 rfl<|.fi rfl rfl
 ·refine .g 7 rfl<|.p0 rfl rfl fun x3 _=>.g 2 rfl<|.bind fun x4 h4=>.st rfl (cl (CC.h h4) [0] [] [true] rfl (.p rfl<|.a kD<|.i<|.nil) (.p rfl (.i<|.i<|.nil) .nil) fnil (.cons (.v (.i<|.i<|.nil)) .nil) (ren_agg (K:=kD) _) (.turned .nil) rfl) rfl<|.g 4 rfl<|.fi rfl rfl
instance dw_prec_i (a0:Int) (a1:Int) (a2:Bool) (a3:List Int) (a4:Int):CC (dw_prec a0 a1 a2 a3 a4) Tryz.prog 195 [(.ptr 0 0),(.int .i64 a0)] [(.live 87 [(.int .i64 a1),(.bool a2),(slK (kInt .u32) a3),(.int .i64 a4)])] (fun r=>(.bool r.1)) (fun r=>[(.live 87 [(.int .i64 r.2),(.bool a2),(slK (kInt .u32) a3),(.int .i64 a4)])]):=cc func195 (by kernel_rfl) rfl fun E=>by
 unfold dw_prec
 refine .g 11 rfl<|.p0 rfl rfl fun x3 _=>.bind fun x4 h2=>.st rfl (cl (CC.h h2) [0] [] [true] rfl (.p rfl<|.b<|.i<|.nil) (.p rfl (.i<|.b<|.l<|.i<|.nil) .nil) fnil (.cons (.v (.i<|.b<|.l<|.i<|.nil)) .nil) (.bool _) (.turned .nil) rfl) rfl<|.g 1 rfl<|.dn (by kernel_rfl)<|.g 2 rfl<|.fi rfl rfl
instance dw_cut_i (a0:Bool) (a1:List Int) (a2:Int) (a3:Bool) (a4:Int) (a5:Bool) (a6:Int) (a7:Bool) (a8:List Int) (a9:Int):CC (dw_cut a0 a1 a2 a3 a4 a5 a6 a7 a8 a9) Tryz.prog 197 [(.ptr 0 0),(.bool a0),(slK (kInt .u32) a1),(.int .i64 a2),(.bool a3),(.int .i64 a4),(.bool a5)] [(.live 87 [(.int .i64 a6),(.bool a7),(slK (kInt .u32) a8),(.int .i64 a9)])] (fun r=>(.tup [])) (fun r=>[(.live 87 [(.int .i64 a6),(.bool r.1),(slK (kInt .u32) r.2.1),(.int .i64 r.2.2)])]):=cc func197 (by kernel_rfl) rfl fun E=>by
 unfold dw_cut
 refine .g 4 rfl<|.p0 rfl rfl fun x68 _=>.g 11 rfl<|?_
 refine .cut (fun x:(List Int) × Int × Bool=>(dw_cut_j1 a0 a5 x.1 x.2.1 x.2.2,[eP 0 0,eB 1 a0,eL 2 x.1,eI 3 x.2.1,eB 4 x.2.2,eB 6 a5],[(0,(.live 87 [(.int .i64 a6),(.bool a7),(slK (kInt .u32) a8),(.int .i64 a9)]))])) ?_ ?_
 ·rintro ⟨y97,y98,y99⟩
  dsimp only [dw_cut_j1]
  refine .g 3 rfl<|?_
  refine .cut (fun x:Bool=>(dw_cut_j2 y97 a0 y98 x,[eP 0 0,eB 1 a0,eL 2 y97,eI 3 y98,eB 43 x],[(0,(.live 87 [(.int .i64 a6),(.bool a7),(slK (kInt .u32) a8),(.int .i64 a9)]))])) ?_ ?_
  ·rintro y100
   dsimp only [dw_cut_j2]
   refine .g 1 rfl<|?_
   refine .cut (fun x:(List Int)=>(dw_cut_j3 a0 y98 x,[eP 0 0,eB 1 a0,eL 2 x,eI 3 y98],[(0,(.live 87 [(.int .i64 a6),(.bool a7),(slK (kInt .u32) a8),(.int .i64 a9)]))])) ?_ ?_
   ·rintro y103
    dsimp only [dw_cut_j3]
    refine .g 6 rfl<|.p0 rfl rfl fun x104 _=>.g 4 rfl<|.fi rfl rfl
   ·intro h47
    refine .cd rfl (fun _ _=>?_) fun _ _=>?_
    ·refine .g 2 rfl<|.p0 rfl rfl fun x105 _=>.p0 rfl rfl fun x106 _=>.g 2 rfl<|.jw (h47 x106) [(0,0)] rfl
    ·refine .g 1 rfl<|.jw (h47 y97) [(0,0)] rfl
  ·intro h52
   refine .g 3 rfl<|?_
   refine .gd 41 rfl (fun _=>?_) fun _=>?_
   ·refine .g 3 rfl<|.jw (h52 a5) [(0,0)] rfl
   ·refine .g 3 rfl<|.jw (h52 false) [(0,0)] rfl
 ·intro h54
  refine .cd rfl (fun _ _=>?_) fun _ _=>?_
  ·refine .g 6 rfl<|?_
   refine .cut (fun x:Bool=>(dw_cut_j4 a1 x68 a4 a0 a5 a2 x,[eP 0 0,eB 1 a0,eL 2 a1,eI 3 a2,eB 4 x,eB 6 a5,eI 14 (IntKind.i64.wrap (x68-a4))],[(0,(.live 87 [(.int .i64 a6),(.bool a7),(slK (kInt .u32) a8),(.int .i64 a9)]))])) ?_ ?_
   ·rintro y120
    dsimp only [dw_cut_j4]
    refine .g 4 rfl<|.p0 rfl rfl fun x121 _=>.g 6 rfl<|.jw (h54 (x121,(IntKind.i64.wrap (a2+(IntKind.i64.wrap (x68-a4)))),y120)) [(0,0)] rfl
   ·intro h76
    refine .g 1 rfl<|?_
    refine .lp (fun n (x:Bool × Int)=>dw_cut_l5 x68 a4 a1 a0 a5 a2 n x.1 x.2) (fun x=>([eP 0 0,eB 1 a0,eL 2 a1,eI 3 a2,eB 4 x.1,eB 6 a5,eI 14 (IntKind.i64.wrap (x68-a4)),eI 15 x.2],[(0,(.live 87 [(.int .i64 a6),(.bool a7),(slK (kInt .u32) a8),(.int .i64 a9)]))])) (a3,0) [(0,0)] rfl ?_
    rintro n5 ⟨y130,y131⟩
    try dsimp only
    rw [dw_cut_l5]
    refine .g 2 rfl<|?_
    refine .cut (fun x:Bool=>(dw_cut_j6 a1 y131 (fun z0 z1=>dw_cut_l5 x68 a4 a1 a0 a5 a2 n5 z0 z1) x68 a4 a0 a5 a2 y130 x,[eP 0 0,eB 1 a0,eL 2 a1,eI 3 a2,eB 4 y130,eB 6 a5,eI 14 (IntKind.i64.wrap (x68-a4)),eI 15 y131,eB 28 x],[(0,(.live 87 [(.int .i64 a6),(.bool a7),(slK (kInt .u32) a8),(.int .i64 a9)]))])) ?_ ?_
    ·rintro y132
     dsimp only [dw_cut_j6]
     refine .g 1 rfl<|?_
     refine .cd rfl (fun _ _=>?_) fun _ _=>?_
     ·refine .g 7 rfl<|.p0 rfl rfl fun x134 _=>.g 9 rfl<|.ag (x134,(IntKind.i64.wrap (y131+1))) [(0,0)] rfl
     ·refine .g 4 rfl<|.jw (h76 y130) [(0,0)] rfl
    ·intro h94
     refine .g 5 rfl<|?_
     refine .gd 25 rfl (fun _=>?_) fun _=>?_
     ·refine .g 4 rfl<|.jw (h94 (!y130)) [(0,0)] rfl
     ·refine .g 4 rfl<|.jw (h94 false) [(0,0)] rfl
  ·refine .g 1 rfl<|.jw (h54 (a1,a2,a3)) [(0,0)] rfl
instance dyad_Round_i (a0:AD) (a1:Int) (a2:Bool):PC (dyad_Round a0 a1 a2) Tryz.prog 160 [(.agg (kD.enc a0)),(.int .i64 a1),(.bool a2)] (fun r=>(.tup [(.agg (kD.enc (⟨((r.1).M),(r.1).E⟩:AD))),(.int .i64 r.2)])):=pc func160 (by kernel_rfl) rfl fun E=>by
 unfold dyad_Round
 refine .g 16 rfl<|?_
 refine .cut (fun x:Bool × Int=>(dyad_Round_j1 a0 a1 a2 x.1 x.2,[eI 1 a1,eB 2 a2,eP 3 0,eP 6 1,eP 8 2,eB 19 x.1],[(0,(.live 26 [(.bool a0.M.Neg),(slK (kInt .u32) a0.M.Mag),(.int .i64 a0.E)])),(1,(.live 26 [(.bool false),(slK (kInt .u32) []),(.int .i64 0)])),(2,(.live 87 [(.int .i64 x.2),(.bool false),(slK (kInt .u32) []),(.int .i64 0)]))])) ?_ ?_
 ·rintro ⟨y15,y16⟩
  dsimp only [dyad_Round_j1]
  refine .g 1 rfl<|?_
  refine .cut (fun x:Bool × (List Int) × Int=>(dyad_Round_j2 y16 x.1 x.2.1 x.2.2,[eP 6 1,eP 8 2],[(1,(.live 26 [(.bool false),(slK (kInt .u32) []),(.int .i64 0)])),(2,(.live 87 [(.int .i64 y16),(.bool x.1),(slK (kInt .u32) x.2.1),(.int .i64 x.2.2)]))])) ?_ ?_
  ·rintro ⟨y18,y19,y20⟩
   dsimp only [dyad_Round_j2]
   refine .g 4 rfl<|.bind fun x21 h7=>.st rfl (cl (CC.h h7) [2] [] [true] rfl (.p rfl<|.nil) (.p rfl (.i<|.b<|.l<|.i<|.nil) .nil) fnil (.cons (.v (.i<|.b<|.l<|.i<|.nil)) .nil) (ren_tupL (.a kD<|.i<|.nil)) (.turned .nil) rfl) rfl<|.g 7 rfl<|.fi rfl rfl
  ·intro h8
   refine .cd rfl (fun _ _=>?_) fun _ _=>?_
   ·refine .g 16 rfl<|.bind fun x22 h11=>.st rfl (cl (CC.h h11) [2] [] [true] rfl (.p rfl<|.b<|.l<|.i<|.b<|.i<|.b<|.nil) (.p rfl (.i<|.b<|.l<|.i<|.nil) .nil) fnil (.cons (.v (.i<|.b<|.l<|.i<|.nil)) .nil) (ren_tupL .nil) (.turned .nil) rfl) rfl<|.g 1 rfl<|.jw (h8 (x22.1,x22.2.1,x22.2.2)) [(1,1),(2,2)] rfl
   ·refine .g 1 rfl<|.jw (h8 (false,[],0)) [(1,1),(2,2)] rfl
 ·intro h12
  refine .g 3 rfl<|.st rfl (bs kD [a0] rfl rfl) rfl<|.bind fun x23 h13=>.st rfl (cl (CC.h h13) [2] [] [true] rfl (.p rfl<|.l<|.nil) (.p rfl (.i<|.b<|.l<|.i<|.nil) .nil) fnil (.cons (.v (.i<|.b<|.l<|.i<|.nil)) .nil) (.bool _) (.turned .nil) rfl) rfl<|.g 1 rfl<|?_
  refine .gd 15 rfl (fun _=>?_) fun _=>?_
  ·refine .g 2 rfl<|.bind fun x24 h15=>.st rfl (cl (CC.h h15) [2] [] [true] rfl (.p rfl<|.i<|.nil) (.p rfl (.i<|.b<|.l<|.i<|.nil) .nil) fnil (.cons (.v (.i<|.b<|.l<|.i<|.nil)) .nil) (.bool _) (.turned .nil) rfl) rfl<|.g 2 rfl<|.jw (h12 (x24.1,x24.2)) [(0,0),(1,1),(2,2)] rfl
  ·refine .g 5 rfl<|.jw (h12 (false,x23.2)) [(0,0),(1,1),(2,2)] rfl
instance cv_down_i (a0:AD) (a1:Int) (a2:Int):CC (cv_down a0 a1 a2) Tryz.prog 90 [(.ptr 0 0),(.agg (kD.enc a0))] [(.live 47 [(.int .i64 a1),(.int .i64 a2)])] (fun r=>(.agg (kD.enc (⟨((r.1).M),(r.1).E⟩:AD)))) (fun r=>[(.live 47 [(.int .i64 r.2),(.int .i64 a2)])]):=cc func90 (by kernel_rfl) rfl fun E=>by
 unfold cv_down
 refine .g 17 rfl<|?_
 refine .cd rfl (fun _ _=>?_) fun _ _=>?_
 ·refine .g 8 rfl<|.fi rfl rfl
 ·refine .g 10 rfl<|.p0 rfl rfl fun x3 _=>.g 2 rfl<|.bind fun x4 h4=>.st rfl (cl (CC.h h4) [0] [] [true] rfl (.p rfl<|.a kD<|.i<|.nil) (.p rfl (.i<|.i<|.nil) .nil) fnil (.cons (.v (.i<|.i<|.nil)) .nil) (ren_agg (K:=kD) _) (.turned .nil) rfl) rfl<|.g 1 rfl<|.dn (by kernel_rfl)<|.g 2 rfl<|.fi rfl rfl
instance cv_up_i (a0:AD) (a1:Int) (a2:Int):CC (cv_up a0 a1 a2) Tryz.prog 91 [(.ptr 0 0),(.agg (kD.enc a0))] [(.live 47 [(.int .i64 a1),(.int .i64 a2)])] (fun r=>(.agg (kD.enc (⟨((r.1).M),(r.1).E⟩:AD)))) (fun r=>[(.live 47 [(.int .i64 r.2),(.int .i64 a2)])]):=cc func91 (by kernel_rfl) rfl fun E=>by
 unfold cv_up
 refine .g 17 rfl<|?_
 refine .cd rfl (fun _ _=>?_) fun _ _=>?_
 ·refine .g 8 rfl<|.fi rfl rfl
 ·refine .g 10 rfl<|.p0 rfl rfl fun x3 _=>.g 2 rfl<|.bind fun x4 h4=>.st rfl (cl (CC.h h4) [0] [] [true] rfl (.p rfl<|.a kD<|.i<|.nil) (.p rfl (.i<|.i<|.nil) .nil) fnil (.cons (.v (.i<|.i<|.nil)) .nil) (ren_agg (K:=kD) _) (.turned .nil) rfl) rfl<|.g 1 rfl<|.dn (by kernel_rfl)<|.g 2 rfl<|.fi rfl rfl
instance cv_out_i (a0:AD) (a1:AD) (a2:Int) (a3:Int):CC (cv_out a0 a1 a2 a3) Tryz.prog 88 [(.ptr 0 0),(.agg (kD.enc a0)),(.agg (kD.enc a1))] [(.live 47 [(.int .i64 a2),(.int .i64 a3)])] (fun r=>(.agg (kI.enc (⟨⟨(((r).Lo).M),((r).Lo).E⟩,⟨(((r).Hi).M),((r).Hi).E⟩⟩:AI)))) (fun r=>[(.live 47 [(.int .i64 a2),(.int .i64 a3)])]):=cc func88 (by kernel_rfl) rfl fun E=>by
 unfold cv_out
 refine .g 18 rfl<|?_
 refine .cd rfl (fun _ _=>?_) fun _ _=>?_
 ·refine .g 8 rfl<|.fi rfl rfl
 ·refine .g 11 rfl<|.fi rfl rfl
instance cv_Add_i (a0:AI) (a1:AI) (a2:Int) (a3:Int):CC (cv_Add a0 a1 a2 a3) Tryz.prog 29 [(.ptr 0 0),(.agg (kI.enc a0)),(.agg (kI.enc a1))] [(.live 47 [(.int .i64 a2),(.int .i64 a3)])] (fun r=>(.agg (kI.enc (⟨⟨(((r.1).Lo).M),((r.1).Lo).E⟩,⟨(((r.1).Hi).M),((r.1).Hi).E⟩⟩:AI)))) (fun r=>[(.live 47 [(.int .i64 r.2),(.int .i64 a3)])]):=cc func29 (by kernel_rfl) rfl fun E=>by
 unfold cv_Add
 refine .g 13 rfl<|.st rfl (bs kI [a0,a1] rfl rfl) rfl<|.bind fun x7 h1=>.st rfl (cl (CC.h h1) [0] [] [true] rfl (.p rfl<|.l<|.nil) (.p rfl (.i<|.i<|.nil) .nil) fnil (.cons (.v (.i<|.i<|.nil)) .nil) (.bool _) (.turned .nil) rfl) rfl<|.g 3 rfl<|?_
 refine .cd rfl (fun _ _=>?_) fun _ _=>?_
 ·refine .g 8 rfl<|.fi rfl rfl
 ·refine .g 10 rfl<|.bind fun x8 h4=>.st rfl (cl (CC.h h4) [0] [] [true] rfl (.p rfl<|.a kD<|.a kD<|.nil) (.p rfl (.i<|.i<|.nil) .nil) fnil (.cons (.v (.i<|.i<|.nil)) .nil) (ren_agg (K:=kD) _) (.turned .nil) rfl) rfl<|.bind fun x9 h5=>.st rfl (cl (CC.h h5) [0] [] [true] rfl (.p rfl<|.a kD<|.nil) (.p rfl (.i<|.i<|.nil) .nil) fnil (.cons (.v (.i<|.i<|.nil)) .nil) (ren_agg (K:=kD) _) (.turned .nil) rfl) rfl<|.g 14 rfl<|.bind fun x10 h6=>.st rfl (cl (CC.h h6) [0] [] [true] rfl (.p rfl<|.a kD<|.a kD<|.nil) (.p rfl (.i<|.i<|.nil) .nil) fnil (.cons (.v (.i<|.i<|.nil)) .nil) (ren_agg (K:=kD) _) (.turned .nil) rfl) rfl<|.bind fun x11 h7=>.st rfl (cl (CC.h h7) [0] [] [true] rfl (.p rfl<|.a kD<|.nil) (.p rfl (.i<|.i<|.nil) .nil) fnil (.cons (.v (.i<|.i<|.nil)) .nil) (ren_agg (K:=kD) _) (.turned .nil) rfl) rfl<|.bind fun x12 h8=>.st rfl (cl (CC.h h8) [0] [] [false] rfl (.p rfl<|.a kD<|.a kD<|.nil) (.p rfl (.i<|.i<|.nil) .nil) fnil (.cons (.v (.i<|.i<|.nil)) .nil) (ren_agg (K:=kI) _) (.kept rfl .nil) rfl) rfl<|.g 1 rfl<|.dn (by kernel_rfl)<|?_
  refine .g 2 rfl<|.fi rfl rfl
instance nat_Mul_i (a0:List Int) (a1:List Int):PC (nat_Mul a0 a1) Tryz.prog 145 [(slK (kInt .u32) a0),(slK (kInt .u32) a1)] (fun r=>(slK (kInt .u32) r)):=pc func145 (by kernel_rfl) rfl fun E=>by
 unfold nat_Mul
 refine .g 2 rfl<|.st rfl (as0 rfl) rfl<|.g 5 rfl<|.p0 rfl rfl fun x187 _=>.g 1 rfl<|.p0 rfl rfl fun x188 _=>.g 7 rfl<|.ln rfl rfl<|.g 1 rfl<|.ln rfl rfl<|.g 1 rfl<|.guard fun h3=>.sv (.row 0 (kInt .u32).sz 0 (((List.replicate ((IntKind.i64.wrap ((x187.length:Int)+(x188.length:Int))).toNat) (kInt .u32).z)).length)) [(0,(rwK (kInt .u32) 130 (List.replicate ((IntKind.i64.wrap ((x187.length:Int)+(x188.length:Int))).toNat) (kInt .u32).z)))] rfl (snd_makeK (kInt .u32) _ _ _ _ _ 0 _ _ _ rfl underlying22 ze130 sb130 (by decide) rfl rfl rfl rfl rfl h3) rfl<|.g 7 rfl<|?_
 refine .ln rfl rfl<|.g 3 rfl<|?_
 refine .cut (fun x:(List Int)=>(nat_Mul_j1 x,[(5,some (.row 0 (kInt .u32).sz 0 ((x).length)))],[(0,(rwK (kInt .u32) 130 x))])) ?_ ?_
 ·rintro y280
  dsimp only [nat_Mul_j1]
  refine .g 2 rfl<|?_
  refine .weak ?_ (fun a w h=>Conc.freezeK (kInt .u32) h 5 0 0 ((y280).length) 130 y280 rfl rfl (by omega))
  refine .weak ?_ (fun a w h=>take_all h)
  refine .g 2 rfl<|.p0 rfl rfl fun x281 _=>.g 4 rfl<|.fi rfl rfl
 ·intro h311
  refine .g 1 rfl<|?_
  refine .lp (fun n (x:Int × (List Int))=>nat_Mul_l2 x187 x188 n x.1 x.2) (fun x=>([eL 1 x188,(5,some (.row 0 (kInt .u32).sz 0 ((x.2).length))),eL 22 x187,eI 23 (x187.length:Int),eI 24 x.1],[(0,(rwK (kInt .u32) 130 x.2))])) (0,(List.replicate ((IntKind.i64.wrap ((x187.length:Int)+(x188.length:Int))).toNat) (kInt .u32).z)) [(0,0)] rfl ?_
  rintro n2 ⟨y342,y343⟩
  try dsimp only
  rw [nat_Mul_l2]
  refine .g 6 rfl<|?_
  refine .cd rfl (fun _ _=>?_) fun _ _=>?_
  ·refine .g 3 rfl<|?_
   refine .cut (fun x:(List Int)=>(nat_Mul_j3 (fun z0 z1=>nat_Mul_l2 x187 x188 n2 z0 z1) y342 x,[eL 1 x188,(5,some (.row 0 (kInt .u32).sz 0 ((x).length))),eL 22 x187,eI 23 (x187.length:Int),eI 24 y342],[(0,(rwK (kInt .u32) 130 x))])) ?_ ?_
   ·rintro y358
    dsimp only [nat_Mul_j3]
    refine .g 5 rfl<|.ag ((IntKind.i64.wrap (y342+1)),y358) [(0,0)] rfl
   ·intro h568
    refine .g 4 rfl<|.ix rfl rfl<|.g 14 rfl<|.ln rfl rfl<|.g 3 rfl<|?_
    refine .cut (fun x:Int × (List Int)=>(nat_Mul_j4 y342 x188 (fun z0 z1=>nat_Mul_l2 x187 x188 n2 z0 z1) x.1 x.2,[eL 1 x188,(5,some (.row 0 (kInt .u32).sz 0 ((x.2).length))),eI 6 y342,eX 8 x.1,eL 22 x187,eI 23 (x187.length:Int),eI 24 y342],[(0,(rwK (kInt .u32) 130 x.2))])) ?_ ?_
    ·rintro ⟨y365,y366⟩
     dsimp only [nat_Mul_j4]
     refine .g 5 rfl<|.ln rfl rfl<|.g 3 rfl<|.guard fun h594=>?_
     obtain ⟨h5941,h5942⟩:=h594
     refine .sv (.rptr 0 (kInt .u32).sz ((IntKind.i64.wrap (y342+(x188.length:Int))).toNat) 0) [] rfl (idx_r (snd_index_r _ _ _ _ _ 0 0 ((y366).length) _ (IntKind.i64.wrap (y342+(x188.length:Int))) rfl underlying22 si130 rfl rfl rfl rfl h5941 (by omega)) (Nat.zero_add _)) rfl<|.sm [(0,(rwK (kInt .u32) 130 ((y366).set ((IntKind.i64.wrap (y342+(x188.length:Int))).toNat) (IntKind.u32.wrap y365))))] rfl (snd_storeK_sca (kInt .u32) _ _ _ 0 ((IntKind.i64.wrap (y342+(x188.length:Int))).toNat) _ _ (IntKind.u32.wrap y365) _ rfl rfl rfl sc130 rfl rfl rfl rfl rfl rfl (by first | omega | (simp only [List.length_set]; omega))) rfl<|?_
     refine .weak ?_ (fun a w h=>Conc.relen h 5 ((((y366).set ((IntKind.i64.wrap (y342+(x188.length:Int))).toNat) (IntKind.u32.wrap y365))).length) rfl List.length_set.symm)
     refine .g 2 rfl<|.jw (h568 ((y366).set ((IntKind.i64.wrap (y342+(x188.length:Int))).toNat) (IntKind.u32.wrap y365))) [(0,0)] rfl
    ·intro h595
     refine .g 1 rfl<|?_
     refine .lp (fun n (x:Int × Int × (List Int))=>nat_Mul_l5 x188 y342 x187 (fun z0 z1=>nat_Mul_l2 x187 x188 n2 z0 z1) n x.1 x.2.1 x.2.2) (fun x=>([eL 1 x188,(5,some (.row 0 (kInt .u32).sz 0 ((x.2.2).length))),eI 6 y342,eW 7 (x187.getD y342.toNat (kInt .u32).z),eX 8 x.1,eL 22 x187,eI 23 (x187.length:Int),eI 24 y342,eL 29 x188,eI 30 (x188.length:Int),eI 31 x.2.1],[(0,(rwK (kInt .u32) 130 x.2.2))])) (0,0,y343) [(0,0)] rfl ?_
     rintro n5 ⟨y370,y371,y372⟩
     try dsimp only
     rw [nat_Mul_l5]
     refine .g 6 rfl<|?_
     refine .cd rfl (fun _ _=>?_) fun _ _=>?_
     ·refine .g 7 rfl<|.ix rfl rfl<|.g 16 rfl<|.guard fun h618=>?_
      obtain ⟨h6181,h6182⟩:=h618
      refine .sv (.rptr 0 (kInt .u32).sz ((IntKind.i64.wrap (y342+y371)).toNat) 0) [] rfl (idx_r (snd_index_r _ _ _ _ _ 0 0 ((y372).length) _ (IntKind.i64.wrap (y342+y371)) rfl underlying22 si130 rfl rfl rfl rfl h6181 (by omega)) (Nat.zero_add _)) rfl<|.sv (.int .u32 ((y372).getD ((IntKind.i64.wrap (y342+y371)).toNat) (kInt .u32).z)) [] rfl (snd_loadK_sca (kInt .u32) _ _ 0 ((IntKind.i64.wrap (y342+y371)).toNat) 0 _ _ rfl sc130 rfl rfl rfl rfl (by first | omega | (simp only [List.length_set]; omega)) (by decide)) rfl<|.g 16 rfl<|.guard fun h619=>?_
      obtain ⟨h6191,h6192⟩:=h619
      refine .sv (.rptr 0 (kInt .u32).sz ((IntKind.i64.wrap (y342+y371)).toNat) 0) [] rfl (idx_r (snd_index_r _ _ _ _ _ 0 0 ((y372).length) _ (IntKind.i64.wrap (y342+y371)) rfl underlying22 si130 rfl rfl rfl rfl h6191 (by omega)) (Nat.zero_add _)) rfl<|.sm [(0,(rwK (kInt .u32) 130 ((y372).set ((IntKind.i64.wrap (y342+y371)).toNat) (IntKind.u32.wrap (IntKind.u64.wrap ((IntKind.u64.wrap ((IntKind.u64.wrap ((IntKind.u64.wrap (x187.getD y342.toNat (kInt .u32).z))*(IntKind.u64.wrap (x188.getD y371.toNat (kInt .u32).z))))+(IntKind.u64.wrap ((y372).getD ((IntKind.i64.wrap (y342+y371)).toNat) (kInt .u32).z))))+y370))))))] rfl (snd_storeK_sca (kInt .u32) _ _ _ 0 ((IntKind.i64.wrap (y342+y371)).toNat) _ _ (IntKind.u32.wrap (IntKind.u64.wrap ((IntKind.u64.wrap ((IntKind.u64.wrap ((IntKind.u64.wrap (x187.getD y342.toNat (kInt .u32).z))*(IntKind.u64.wrap (x188.getD y371.toNat (kInt .u32).z))))+(IntKind.u64.wrap ((y372).getD ((IntKind.i64.wrap (y342+y371)).toNat) (kInt .u32).z))))+y370))) _ rfl rfl rfl sc130 rfl rfl rfl rfl rfl rfl (by first | omega | (simp only [List.length_set]; omega))) rfl<|?_
      refine .weak ?_ (fun a w h=>Conc.relen h 5 ((((y372).set ((IntKind.i64.wrap (y342+y371)).toNat) (IntKind.u32.wrap (IntKind.u64.wrap ((IntKind.u64.wrap ((IntKind.u64.wrap ((IntKind.u64.wrap (x187.getD y342.toNat (kInt .u32).z))*(IntKind.u64.wrap (x188.getD y371.toNat (kInt .u32).z))))+(IntKind.u64.wrap ((y372).getD ((IntKind.i64.wrap (y342+y371)).toNat) (kInt .u32).z))))+y370))))).length) rfl List.length_set.symm)
      refine .g 8 rfl<|.ag ((shrI .u64 (IntKind.u64.wrap ((IntKind.u64.wrap ((IntKind.u64.wrap ((IntKind.u64.wrap (x187.getD y342.toNat (kInt .u32).z))*(IntKind.u64.wrap (x188.getD y371.toNat (kInt .u32).z))))+(IntKind.u64.wrap ((y372).getD ((IntKind.i64.wrap (y342+y371)).toNat) (kInt .u32).z))))+y370)) 32),(IntKind.i64.wrap (y371+1)),((y372).set ((IntKind.i64.wrap (y342+y371)).toNat) (IntKind.u32.wrap (IntKind.u64.wrap ((IntKind.u64.wrap ((IntKind.u64.wrap ((IntKind.u64.wrap (x187.getD y342.toNat (kInt .u32).z))*(IntKind.u64.wrap (x188.getD y371.toNat (kInt .u32).z))))+(IntKind.u64.wrap ((y372).getD ((IntKind.i64.wrap (y342+y371)).toNat) (kInt .u32).z))))+y370))))) [(0,0)] rfl
     ·refine .g 4 rfl<|.jw (h595 (y370,y372)) [(0,0)] rfl
  ·refine .g 4 rfl<|.jw (h311 y343) [(0,0)] rfl
instance dyad_Mul_i (a0:AD) (a1:AD):PC (dyad_Mul a0 a1) Tryz.prog 70 [(.agg (kD.enc a0)),(.agg (kD.enc a1))] (fun r=>(.tup [(.agg (kD.enc (⟨((r.1).M),(r.1).E⟩:AD))),(.int .i64 r.2)])):=pc func70 (by kernel_rfl) rfl fun E=>by
 unfold dyad_Mul
 refine .g 21 rfl<|.st rfl (bs kD [a0,a1] rfl rfl) rfl<|.bind fun x10 h1=>.st rfl (cl (CC.h h1) [3] [] [true] rfl (.p rfl<|.l<|.nil) (.p rfl (.i<|.b<|.l<|.i<|.nil) .nil) fnil (.cons (.v (.i<|.b<|.l<|.i<|.nil)) .nil) (.bool _) (.turned .nil) rfl) rfl<|.g 2 rfl<|?_
 refine .cut (fun x:Bool × (List Int) × Int=>(dyad_Mul_j1 x10 x.1 x.2.1 x.2.2,[eP 4 2,eP 6 3],[(2,(.live 26 [(.bool false),(slK (kInt .u32) []),(.int .i64 0)])),(3,(.live 87 [(.int .i64 x10.2),(.bool x.1),(slK (kInt .u32) x.2.1),(.int .i64 x.2.2)]))])) ?_ ?_
 ·rintro ⟨y13,y14,y15⟩
  dsimp only [dyad_Mul_j1]
  refine .g 4 rfl<|.bind fun x16 h6=>.st rfl (cl (CC.h h6) [3] [] [true] rfl (.p rfl<|.nil) (.p rfl (.i<|.b<|.l<|.i<|.nil) .nil) fnil (.cons (.v (.i<|.b<|.l<|.i<|.nil)) .nil) (ren_tupL (.a kD<|.i<|.nil)) (.turned .nil) rfl) rfl<|.g 7 rfl<|.fi rfl rfl
 ·intro h7
  refine .cd rfl (fun _ _=>?_) fun _ _=>?_
  ·refine .g 15 rfl<|.p0 rfl rfl fun x17 _=>.g 5 rfl<|.p0 rfl rfl fun x18 _=>.g 3 rfl<|.dn (by kernel_rfl)<|.jw (h7 (((x18).M).Neg,((x18).M).Mag,(x18).E)) [(2,2),(3,3)] rfl
  ·refine .g 1 rfl<|.jw (h7 (false,[],0)) [(2,2),(3,3)] rfl
instance cv_four_6ec2_i (a0:AI) (a1:AI) (a2:Int) (a3:Int):CC (cv_four_6ec2 a0 a1 a2 a3) Tryz.prog 89 [(.ptr 0 0),(.agg (kI.enc a0)),(.agg (kI.enc a1)),(.fn 70 [] [])] [(.live 47 [(.int .i64 a2),(.int .i64 a3)])] (fun r=>(slK kD r.1)) (fun r=>[(.live 47 [(.int .i64 r.2),(.int .i64 a3)])]):=cc func89 (by kernel_rfl) rfl fun E=>by
 unfold cv_four_6ec2
 refine .g 13 rfl<|.st rfl (bs kD [a0.Lo,a0.Hi] rfl rfl) rfl<|.g 4 rfl<|.st rfl (bs kD [a1.Lo,a1.Hi] rfl rfl) rfl<|.g 2 rfl<|.dn (by kernel_rfl)<|.g 8 rfl<|.p0 rfl rfl fun x487 _=>.g 3 rfl<|?_
 refine .cut (fun x:(List AD)=>(cv_four_6ec2_j1 a1 a3 a2 x,[eP 0 0,(3,some (.fn 70 [] [])),eP 6 2,eK kD 9 x,eK kD 10 [a1.Lo,a1.Hi]],[(0,(.live 47 [(.int .i64 a2),(.int .i64 a3)])),(2,(.live 37 [(.bool a1.Lo.M.Neg),(slK (kInt .u32) a1.Lo.M.Mag),(.int .i64 a1.Lo.E),(.bool a1.Hi.M.Neg),(slK (kInt .u32) a1.Hi.M.Mag),(.int .i64 a1.Hi.E)]))])) ?_ ?_
 ·rintro y488
  dsimp only [cv_four_6ec2_j1]
  refine .g 8 rfl<|.p0 rfl rfl fun x489 _=>.g 3 rfl<|?_
  refine .cut (fun x:(List AD)=>(cv_four_6ec2_j2 y488 a3 a2 x,[eP 0 0,(3,some (.fn 70 [] [])),eK kD 9 y488,eK kD 10 x],[(0,(.live 47 [(.int .i64 a2),(.int .i64 a3)]))])) ?_ ?_
  ·rintro y490
   dsimp only [cv_four_6ec2_j2]
   refine .g 10 rfl<|.ln rfl rfl<|.g 3 rfl<|?_
   refine .cut (fun x:Int × (List AD)=>(cv_four_6ec2_j3 x.1 x.2,[(11,some (grA kD 1 x.2))],[(0,(.live 47 [(.int .i64 x.1),(.int .i64 a3)])),(1,(grV kD 26 x.2))])) ?_ ?_
   ·rintro ⟨y731,y732⟩
    dsimp only [cv_four_6ec2_j3]
    refine .g 8 rfl<|?_
    refine .weak ?_ (fun a w h=>Conc.gr_still kD h 8 1 26 y732 rfl rfl)
    exact .fi rfl rfl
   ·intro h381
    refine .g 1 rfl<|?_
    refine .weak ?_ (fun a w h=>Conc.gr_nil kD h 11 1 26 rfl)
    refine .lo (fun n (x:Int × Int × (List AD))=>cv_four_6ec2_l4 y488 y490 a3 n x.1 x.2.1 x.2.2) (fun x=>([eP 0 0,(3,some (.fn 70 [] [])),eK kD 10 y490,(11,some (grA kD 1 x.2.2)),eK kD 42 y488,eI 43 (y488.length:Int),eI 44 x.1],[(0,(.live 47 [(.int .i64 x.2.1),(.int .i64 a3)])),(1,(grV kD 26 x.2.2))])) (0,a2,[]) rfl (fun hE=>jn (m:=1) [(0,0),(1,1)] hE (.p rfl rfl<|.g rfl (ren_fnL _ .nil .nil)<|.l rfl<|.g rfl (ren_gr (K:=kD) (by rfl) [])<|.l rfl<|.i rfl<|.i rfl<|.nil) (.v rfl (.i<|.i<|.nil)<|.cons (.refl _) (renV_gr (K:=kD) 26 [])<|.nil) rfl) ?_
    rintro n4 ⟨y892,y893,y894⟩
    try dsimp only
    rw [cv_four_6ec2_l4]
    refine .g 6 rfl<|?_
    refine .cd rfl (fun _ _=>?_) fun _ _=>?_
    ·refine .g 3 rfl<|?_
     refine .cut (fun x:Int × (List AD)=>(cv_four_6ec2_j5 (fun z0 z1 z2=>cv_four_6ec2_l4 y488 y490 a3 n4 z0 z1 z2) y892 x.1 x.2,[eP 0 0,(3,some (.fn 70 [] [])),eK kD 10 y490,(11,some (grA kD 1 x.2)),eK kD 42 y488,eI 43 (y488.length:Int),eI 44 y892],[(0,(.live 47 [(.int .i64 x.1),(.int .i64 a3)])),(1,(grV kD 26 x.2))])) ?_ ?_
     ·rintro ⟨y933,y934⟩
      dsimp only [cv_four_6ec2_j5]
      refine .g 5 rfl<|.ao ((IntKind.i64.wrap (y892+1)),y933,y934) rfl fun hE=>jn (m:=1) [(0,0),(1,1)] hE (.p rfl rfl<|.g rfl (ren_fnL _ .nil .nil)<|.l rfl<|.g rfl (ren_gr (K:=kD) (by rfl) y934)<|.l rfl<|.i rfl<|.i rfl<|.nil) (.v rfl (.i<|.i<|.nil)<|.cons (.refl _) (renV_gr (K:=kD) 26 y934)<|.nil) rfl
     ·intro h693
      refine .g 3 rfl<|.ix rfl rfl<|.g 8 rfl<|.ln rfl rfl<|.g 3 rfl<|?_
      refine .cut (fun x:Int × (List AD)=>(cv_four_6ec2_j6 (fun z0 z1 z2=>cv_four_6ec2_l4 y488 y490 a3 n4 z0 z1 z2) y892 x.1 x.2,[eP 0 0,(3,some (.fn 70 [] [])),eK kD 10 y490,(11,some (grA kD 1 x.2)),eK kD 42 y488,eI 43 (y488.length:Int),eI 44 y892],[(0,(.live 47 [(.int .i64 x.1),(.int .i64 a3)])),(1,(grV kD 26 x.2))])) ?_ ?_
      ·rintro ⟨y953,y954⟩
       dsimp only [cv_four_6ec2_j6]
       refine .g 1 rfl<|.jo (h693 (y953,y954)) rfl fun hE=>jn (m:=1) [(0,0),(1,1)] hE (.p rfl rfl<|.g rfl (ren_fnL _ .nil .nil)<|.l rfl<|.g rfl (ren_gr (K:=kD) (by rfl) y954)<|.l rfl<|.i rfl<|.i rfl<|.nil) (.v rfl (.i<|.i<|.nil)<|.cons (.refl _) (renV_gr (K:=kD) 26 y954)<|.nil) rfl
      ·intro h725
       refine .g 1 rfl<|?_
       refine .lo (fun n (x:Int × Int × (List AD))=>cv_four_6ec2_l7 y490 y488 y892 a3 (fun z0 z1 z2=>cv_four_6ec2_l4 y488 y490 a3 n4 z0 z1 z2) n x.1 x.2.1 x.2.2) (fun x=>([eP 0 0,(3,some (.fn 70 [] [])),eK kD 10 y490,(11,some (grA kD 1 x.2.2)),eP 13 2,eK kD 42 y488,eI 43 (y488.length:Int),eI 44 y892,eK kD 48 y490,eI 49 (y490.length:Int),eI 50 x.1],[(0,(.live 47 [(.int .i64 x.2.1),(.int .i64 a3)])),(1,(grV kD 26 x.2.2)),(2,(.live 26 [(.bool (((y488.getD y892.toNat zAD).M).Neg)),(slK (kInt .u32) (((y488.getD y892.toNat zAD).M).Mag)),(.int .i64 ((y488.getD y892.toNat zAD).E))]))])) (0,y893,y894) rfl (fun hE=>jn (m:=1) [(0,0),(1,1),(2,2)] hE (.p rfl rfl<|.g rfl (ren_fnL _ .nil .nil)<|.l rfl<|.g rfl (ren_gr (K:=kD) (by rfl) y894)<|.p rfl rfl<|.l rfl<|.i rfl<|.i rfl<|.l rfl<|.i rfl<|.i rfl<|.nil) (.v rfl (.i<|.i<|.nil)<|.cons (.refl _) (renV_gr (K:=kD) 26 y894)<|.v rfl (.b<|.l<|.i<|.nil)<|.nil) rfl) ?_
       rintro n7 ⟨y966,y967,y968⟩
       try dsimp only
       rw [cv_four_6ec2_l7]
       refine .g 6 rfl<|?_
       refine .cd rfl (fun _ _=>?_) fun _ _=>?_
       ·refine .g 6 rfl<|.ix rfl rfl<|.g 11 rfl<|.p0 rfl rfl fun x971 _=>.g 2 rfl<|.bind fun x972 h754=>.st rfl (cl (CC.h h754) [0] [] [true] rfl (.p rfl<|.a kD<|.i<|.nil) (.p rfl (.i<|.i<|.nil) .nil) fnil (.cons (.v (.i<|.i<|.nil)) .nil) (ren_agg (K:=kD) _) (.turned .nil) rfl) rfl<|.st rfl (bs kD [(⟨((x972.1).M),(x972.1).E⟩:AD)] rfl rfl) rfl<|.guard fun h755=>.sv (.row 4 kD.sz 0 (((y968++[(⟨((x972.1).M),(x972.1).E⟩:AD)])).length)) [(4,(rwK kD 26 (y968++[(⟨((x972.1).M),(x972.1).E⟩:AD)]))),(1,.dead)] rfl (snd_appendK_gr kD _ _ _ _ _ 1 4 y968 [(⟨((x972.1).M),(x972.1).E⟩:AD)] rfl underlying97 ze26 sb26 rfl rfl rfl rfl rfl rfl rfl h755) rfl<|.g 8 rfl<|?_
        refine .weak ?_ (fun a w h=>Conc.gr_row kD h 11 4 26 (y968++[(⟨((x972.1).M),(x972.1).E⟩:AD)]) rfl rfl (by first | omega | (simp only [List.length_append,List.length_cons,List.length_set]; omega) | simp))
        exact .ao ((IntKind.i64.wrap (y966+1)),x972.2,(y968++[(⟨((x972.1).M),(x972.1).E⟩:AD)])) rfl fun hE=>jn (m:=1) [(0,0),(4,1),(2,2)] hE (.p rfl rfl<|.g rfl (ren_fnL _ .nil .nil)<|.l rfl<|.g rfl (ren_gr (K:=kD) (by rfl) (y968++[(⟨((x972.1).M),(x972.1).E⟩:AD)]))<|.p rfl rfl<|.l rfl<|.i rfl<|.i rfl<|.l rfl<|.i rfl<|.i rfl<|.nil) (.v rfl (.i<|.i<|.nil)<|.cons (.refl _) (renV_gr (K:=kD) 26 (y968++[(⟨((x972.1).M),(x972.1).E⟩:AD)]))<|.v rfl (.b<|.l<|.i<|.nil)<|.nil) rfl
       ·refine .g 4 rfl<|.jo (h725 (y967,y968)) rfl fun hE=>jn (m:=1) [(0,0),(1,1)] hE (.p rfl rfl<|.g rfl (ren_fnL _ .nil .nil)<|.l rfl<|.g rfl (ren_gr (K:=kD) (by rfl) y968)<|.l rfl<|.i rfl<|.i rfl<|.nil) (.v rfl (.i<|.i<|.nil)<|.cons (.refl _) (renV_gr (K:=kD) 26 y968)<|.nil) rfl
    ·refine .g 4 rfl<|.jo (h381 (y893,y894)) rfl fun hE=>jn (m:=1) [(0,0),(1,1)] hE (.g rfl (ren_gr (K:=kD) (by rfl) y894)<|.nil) (.v rfl (.i<|.i<|.nil)<|.cons (.refl _) (renV_gr (K:=kD) 26 y894)<|.nil) rfl
  ·intro h756
   refine .cd rfl (fun _ _=>?_) fun _ _=>?_
   ·refine .g 2 rfl<|.guard fun h759=>.sv (slK kD ([a1.Lo,a1.Hi].take 1)) [] rfl (snd_sliceK kD _ _ _ _ _ _ 0 1 rfl underlying97 si26 rfl rfl rfl rfl rfl h759) rfl<|.g 2 rfl<|.jw (h756 ([a1.Lo,a1.Hi].take 1)) [(0,0)] rfl
   ·refine .g 1 rfl<|.jw (h756 [a1.Lo,a1.Hi]) [(0,0)] rfl
 ·intro h760
  refine .cd rfl (fun _ _=>?_) fun _ _=>?_
  ·refine .g 2 rfl<|.guard fun h763=>.sv (slK kD ([a0.Lo,a0.Hi].take 1)) [] rfl (snd_sliceK kD _ _ _ _ _ _ 0 1 rfl underlying97 si26 rfl rfl rfl rfl rfl h763) rfl<|.g 2 rfl<|.jw (h760 ([a0.Lo,a0.Hi].take 1)) [(0,0),(2,2)] rfl
  ·refine .g 1 rfl<|.jw (h760 [a0.Lo,a0.Hi]) [(0,0),(2,2)] rfl
end Go.Proofs.YtjfcghliglfapabGreat.Gen
