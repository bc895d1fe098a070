/- Printed by geng.py: a call does what the plain function says. -/
import Derived.Test.YtoakhpdeadglpaaGreatChebFallsGenP4
set_option linter.unusedVariables false
set_option linter.unusedSimpArgs false
set_option maxRecDepth 4000
set_option synthInstance.maxSize 4000
set_option synthInstance.maxHeartbeats 400000
namespace Go.Proofs.YtoakhpdeadglpaaGreat.Gen
open Go Go.Abs Go.Proofs Go.Proofs.Tryz
instance fun_function_at_0140_i (a0:Bool) (a1:Int) (a2:Int) (a3:Int) (a4:Bool) (a5:ByteArray) (a6:AD):PC (fun_function_at_0140 a0 a1 a2 a3 a4 a5 a6) Tryz.prog 69 [(.agg [(.bool a0),(.int .i64 a1),(.int .i64 a2),(.int .i64 a3),(.bool a4),(.str a5),.anyf]),(.agg (kD.enc a6))] (fun r=>(.int .i64 r)):=pc func69 (by kernel_rfl) rfl fun E=>by
 unfold fun_function_at_0140
 refine .g 10 rfl<|.p0 rfl rfl fun x38 _=>.g 10 rfl<|?_
 refine .cut (fun x:Bool=>(fun_function_at_0140_j1 a1 x38 a2 a6 a3 x,[eP 2 0,eP 3 1,eI 5 x38.1,eB 6 x38.2,eB 12 x],[(0,(.live 107 [(.bool a0),(.int .i64 a1),(.int .i64 a2),(.int .i64 a3),(.bool a4),(.str a5),.anyf])),(1,(.live 26 [(.bool a6.M.Neg),(slK (kInt .u32) a6.M.Mag),(.int .i64 a6.E)]))])) ?_ ?_
 ·rintro y58
  dsimp only [fun_function_at_0140_j1]
  refine .g 1 rfl<|?_
  refine .cd rfl (fun _ _=>?_) fun _ _=>?_
  ·refine .g 8 rfl<|.fi rfl rfl
  ·refine .g 1 rfl<|?_
   refine .cut (fun x:Bool=>(fun_function_at_0140_j2 a2 a6 a3 x,[eP 2 0,eP 3 1,eB 22 x],[(0,(.live 107 [(.bool a0),(.int .i64 a1),(.int .i64 a2),(.int .i64 a3),(.bool a4),(.str a5),.anyf])),(1,(.live 26 [(.bool a6.M.Neg),(slK (kInt .u32) a6.M.Mag),(.int .i64 a6.E)]))])) ?_ ?_
   ·rintro y59
    dsimp only [fun_function_at_0140_j2]
    refine .g 1 rfl<|?_
    refine .cd rfl (fun _ _=>?_) fun _ _=>?_
    ·refine .g 8 rfl<|.fi rfl rfl
    ·refine .g 1 rfl<|?_
     refine .cut (fun x:Bool=>(fun_function_at_0140_j3 a3 a6 x,[eP 2 0,eP 3 1,eB 37 x],[(0,(.live 107 [(.bool a0),(.int .i64 a1),(.int .i64 a2),(.int .i64 a3),(.bool a4),(.str a5),.anyf])),(1,(.live 26 [(.bool a6.M.Neg),(slK (kInt .u32) a6.M.Mag),(.int .i64 a6.E)]))])) ?_ ?_
     ·rintro y64
      dsimp only [fun_function_at_0140_j3]
      refine .g 1 rfl<|?_
      refine .cd rfl (fun _ _=>?_) fun _ _=>?_
      ·refine .g 8 rfl<|.fi rfl rfl
      ·refine .g 1 rfl<|?_
       refine .cut (fun x:Bool=>(fun_function_at_0140_j4 x,[eB 61 x],[])) ?_ ?_
       ·rintro y67
        dsimp only [fun_function_at_0140_j4]
        refine .g 1 rfl<|?_
        refine .cd rfl (fun _ _=>?_) fun _ _=>?_
        ·refine .g 8 rfl<|.fi rfl rfl
        ·refine .g 9 rfl<|.fi rfl rfl
       ·intro h57
        refine .g 6 rfl<|?_
        refine .gd 66 rfl (fun _=>?_) fun _=>?_
        ·refine .g 5 rfl<|.p0 rfl rfl fun x68 _=>.p0 rfl rfl fun x69 _=>.g 3 rfl<|.dn (by kernel_rfl)<|.jw (h57 (decide (x69<0))) [] rfl
        ·refine .g 10 rfl<|.dn (by kernel_rfl)<|.jw (h57 false) [] rfl
     ·intro h61
      refine .g 6 rfl<|?_
      refine .gd 42 rfl (fun _=>?_) fun _=>?_
      ·refine .g 4 rfl<|.p0 rfl rfl fun x70 _=>.p0 rfl rfl fun x71 _=>.g 2 rfl<|?_
       refine .gd 50 rfl (fun _=>?_) fun _=>?_
       ·refine .g 11 rfl<|.dn (by kernel_rfl)<|.jw (h61 true) [(0,0),(1,1)] rfl
       ·refine .g 5 rfl<|.p0 rfl rfl fun x72 _=>.p0 rfl rfl fun x73 _=>.g 4 rfl<|.dn (by kernel_rfl)<|.jw (h61 (decide (x73<0))) [(0,0),(1,1)] rfl
      ·refine .g 19 rfl<|.dn (by kernel_rfl)<|.jw (h61 false) [(0,0),(1,1)] rfl
   ·intro h68
    refine .g 6 rfl<|?_
    refine .gd 27 rfl (fun _=>?_) fun _=>?_
    ·refine .g 3 rfl<|?_
     refine .gd 30 rfl (fun _=>?_) fun _=>?_
     ·refine .g 8 rfl<|.jw (h68 (decide (x38.1>a1))) [(0,0),(1,1)] rfl
     ·refine .g 8 rfl<|.jw (h68 false) [(0,0),(1,1)] rfl
    ·refine .g 11 rfl<|.jw (h68 false) [(0,0),(1,1)] rfl
 ·intro h71
  refine .g 5 rfl<|?_
  refine .gd 16 rfl (fun _=>?_) fun _=>?_
  ·refine .g 2 rfl<|.p0 rfl rfl fun x74 _=>.g 4 rfl<|.jw (h71 (decide (x74≤0))) [(0,0),(1,1)] rfl
  ·refine .g 7 rfl<|.jw (h71 false) [(0,0),(1,1)] rfl
instance zint_Mul_i (a0:ApiInt) (a1:ApiInt):PC (zint_Mul a0 a1) Tryz.prog 177 [(.agg (kN.enc a0)),(.agg (kN.enc a1))] (fun r=>(.agg (kN.enc (r)))):=pc func177 (by kernel_rfl) rfl fun E=>by
 unfold zint_Mul
 refine .g 10 rfl<|.p0 rfl rfl fun x5 _=>.g 1 rfl<|.p0 rfl rfl fun x6 _=>.g 4 rfl<|.dn (by kernel_rfl)<|.g 14 rfl<|.p0 rfl rfl fun x7 _=>.p0 rfl rfl fun x8 _=>.g 1 rfl<|.dn (by kernel_rfl)<|.g 2 rfl<|.fi rfl rfl
instance fun_factorial_i (a0:Int):PC (fun_factorial a0) Tryz.prog 84 [(.int .i64 a0)] (fun r=>(.agg (kN.enc (r)))):=pc func84 (by kernel_rfl) rfl fun E=>by
 unfold fun_factorial
 refine .g 7 rfl<|.p0 rfl rfl fun x40 _=>.g 10 rfl<|?_
 refine .cut (fun x:Bool × (List Int)=>(fun_factorial_j1 x.1 x.2,[eP 2 0,eP 3 1],[(0,(.live 24 [(.bool false),(slK (kInt .u32) [])])),(1,(.live 24 [(.bool x.1),(slK (kInt .u32) x.2)]))])) ?_ ?_
 ·rintro ⟨y59,y60⟩
  dsimp only [fun_factorial_j1]
  refine .g 8 rfl<|.fi rfl rfl
 ·intro h20
  refine .g 1 rfl<|?_
  refine .lp (fun n (x:Int × Bool × (List Int))=>fun_factorial_l2 a0 n x.1 x.2.1 x.2.2) (fun x=>([eI 0 a0,eP 2 0,eP 3 1,eI 4 x.1],[(0,(.live 24 [(.bool false),(slK (kInt .u32) [])])),(1,(.live 24 [(.bool x.2.1),(slK (kInt .u32) x.2.2)]))])) (2,(x40).Neg,(x40).Mag) [(0,0),(1,1)] rfl ?_
  rintro n2 ⟨y72,y73,y74⟩
  try dsimp only
  rw [fun_factorial_l2]
  refine .g 8 rfl<|?_
  refine .cd rfl (fun _ _=>?_) fun _ _=>?_
  ·refine .g 7 rfl<|.p0 rfl rfl fun x77 _=>.p0 rfl rfl fun x78 _=>.g 1 rfl<|.dn (by kernel_rfl)<|.g 7 rfl<|.ag ((IntKind.i64.wrap (y72+1)),(x78).Neg,(x78).Mag) [(0,0),(1,1)] rfl
  ·refine .g 4 rfl<|.jw (h20 (y73,y74)) [(0,0),(1,1)] rfl
instance fun_Slope_i (a0:Int) (a1:Int) (a2:AD) (a3:AD) (a4:Int):PC (fun_Slope a0 a1 a2 a3 a4) Tryz.prog 31 [(.int .i64 a0),(.int .i64 a1),(.agg (kD.enc a2)),(.agg (kD.enc a3)),(.int .i64 a4)] (fun r=>(.tup [(.agg (kD.enc (⟨((r.1).M),(r.1).E⟩:AD))),(.int .i64 r.2)])):=pc func31 (by kernel_rfl) rfl fun E=>by
 unfold fun_Slope
 refine .g 13 rfl<|.p0 rfl rfl fun x95 _=>.g 13 rfl<|.p0 rfl rfl fun x96 _=>.g 10 rfl<|?_
 refine .cut (fun x:Bool=>(fun_Slope_j1 x95 a2 a3 a4 a0 x,[eI 0 a0,eI 4 a4,eP 7 0,eP 8 1,eP 10 2,eP 12 3,eB 58 x],[(0,(.live 26 [(.bool a2.M.Neg),(slK (kInt .u32) a2.M.Mag),(.int .i64 a2.E)])),(1,(.live 26 [(.bool a3.M.Neg),(slK (kInt .u32) a3.M.Mag),(.int .i64 a3.E)])),(2,(.live 26 [(.bool false),(slK (kInt .u32) []),(.int .i64 0)])),(3,(.live 107 [(.bool x95.1),(.int .i64 x95.2.1),(.int .i64 x95.2.2.1),(.int .i64 x95.2.2.2.1),(.bool x95.2.2.2.2.1),(.str x95.2.2.2.2.2.1),.anyf]))])) ?_ ?_
 ·rintro y98
  dsimp only [fun_Slope_j1]
  refine .g 1 rfl<|?_
  refine .cd rfl (fun _ _=>?_) fun _ _=>?_
  ·refine .g 9 rfl<|.fi rfl rfl
  ·refine .g 11 rfl<|?_
   refine .cd rfl (fun _ _=>?_) fun _ _=>?_
   ·refine .g 9 rfl<|.fi rfl rfl
   ·refine .g 7 rfl<|.st rfl (bs kD [a2,a3] rfl rfl) rfl<|.ln rfl rfl<|.g 3 rfl<|?_
    refine .cut (fun x:Unit=>(fun_Slope_j2 a4 a0 a2,[eI 0 a0,eI 4 a4,eP 7 0,eP 8 1,eP 10 2],[(0,(.live 26 [(.bool a2.M.Neg),(slK (kInt .u32) a2.M.Mag),(.int .i64 a2.E)])),(1,(.live 26 [(.bool a3.M.Neg),(slK (kInt .u32) a3.M.Mag),(.int .i64 a3.E)])),(2,(.live 26 [(.bool false),(slK (kInt .u32) []),(.int .i64 0)]))])) ?_ ?_
    ·rintro _
     dsimp only [fun_Slope_j2]
     refine .g 4 rfl<|.p0 rfl rfl fun x107 _=>.p0 rfl rfl fun x108 _=>.g 14 rfl<|?_
     refine .cut (fun x:Unit=>(fun_Slope_j3,[eP 10 2],[(2,(.live 26 [(.bool false),(slK (kInt .u32) []),(.int .i64 0)]))])) ?_ ?_
     ·rintro _
      dsimp only [fun_Slope_j3]
      refine .g 3 rfl<|.p0 rfl rfl fun x144 _=>.g 5 rfl<|.fi rfl rfl
     ·intro h108
      refine .g 7 rfl<|?_
      refine .cd rfl (fun _ _=>?_) fun _ _=>?_
      ·refine .g 3 rfl<|.no
      ·refine .g 6 rfl<|?_
       refine .cd rfl (fun _ _=>?_) fun _ _=>?_
       ·refine .g 2 rfl<|.p0 rfl rfl fun x145 _=>.g 11 rfl<|?_
        refine .cut (fun x:Bool × (List Int) × Int=>(fun_Slope_j4 x108 x.1 x.2.1 x.2.2,[eP 10 2,eP 19 3,eP 23 4],[(2,(.live 26 [(.bool false),(slK (kInt .u32) []),(.int .i64 0)])),(3,(.live 26 [(.bool (((x108.1).M).Neg)),(slK (kInt .u32) (((x108.1).M).Mag)),(.int .i64 ((x108.1).E))])),(4,(.live 26 [(.bool x.1),(slK (kInt .u32) x.2.1),(.int .i64 x.2.2)]))])) ?_ ?_
        ·rintro ⟨y160,y161,y162⟩
         dsimp only [fun_Slope_j4]
         refine .g 5 rfl<|.p0 rfl rfl fun x163 _=>.g 9 rfl<|.fi rfl rfl
        ·intro h139
         refine .g 1 rfl<|?_
         refine .lp (fun n (x:Int × Bool × (List Int) × Int)=>fun_Slope_l5 a4 a2 x108 n x.1 x.2.1 x.2.2.1 x.2.2.2) (fun x=>([eP 7 0,eP 10 2,eP 19 3,eP 23 4,eI 101 a4,eI 102 x.1],[(0,(.live 26 [(.bool a2.M.Neg),(slK (kInt .u32) a2.M.Mag),(.int .i64 a2.E)])),(2,(.live 26 [(.bool false),(slK (kInt .u32) []),(.int .i64 0)])),(3,(.live 26 [(.bool (((x108.1).M).Neg)),(slK (kInt .u32) (((x108.1).M).Mag)),(.int .i64 ((x108.1).E))])),(4,(.live 26 [(.bool x.2.1),(slK (kInt .u32) x.2.2.1),(.int .i64 x.2.2.2)]))])) (0,((x145).M).Neg,((x145).M).Mag,(x145).E) [(0,0),(2,2),(3,3),(4,4)] rfl ?_
         rintro n5 ⟨y172,y173,y174,y175⟩
         try dsimp only
         rw [fun_Slope_l5]
         refine .g 6 rfl<|?_
         refine .cd rfl (fun _ _=>?_) fun _ _=>?_
         ·refine .g 13 rfl<|.p0 rfl rfl fun x177 _=>.g 13 rfl<|?_
          refine .cd rfl (fun _ _=>?_) fun _ _=>?_
          ·refine .g 16 rfl<|.fi rfl rfl
          ·refine .g 7 rfl<|.ag ((IntKind.i64.wrap (y172+1)),((x177.1).M).Neg,((x177.1).M).Mag,(x177.1).E) [(0,0),(2,2),(3,3),(4,4)] rfl
         ·refine .g 4 rfl<|.jw (h139 (y173,y174,y175)) [(2,2),(3,3),(4,4)] rfl
       ·refine .g 6 rfl<|?_
        refine .cd rfl (fun _ _=>?_) fun _ _=>?_
        ·refine .g 10 rfl<|.fi rfl rfl
        ·refine .g 7 rfl<|?_
         refine .cut (fun x:Bool=>(fun_Slope_j6 x108 a4 x,[eI 4 a4,eP 10 2,eP 19 3,eB 123 x],[(2,(.live 26 [(.bool false),(slK (kInt .u32) []),(.int .i64 0)])),(3,(.live 26 [(.bool (((x108.1).M).Neg)),(slK (kInt .u32) (((x108.1).M).Mag)),(.int .i64 ((x108.1).E))]))])) ?_ ?_
         ·rintro y178
          dsimp only [fun_Slope_j6]
          refine .g 1 rfl<|?_
          refine .cd rfl (fun _ _=>?_) fun _ _=>?_
          ·refine .g 5 rfl<|.p0 rfl rfl fun x179 _=>.g 9 rfl<|.fi rfl rfl
          ·refine .g 2 rfl<|.jw (h108 ()) [(2,2)] rfl
         ·intro h171
          refine .cd rfl (fun h172 _=>?_) fun h172 _=>?_
          ·refine .kn 123 true rfl h172<|.g 1 rfl<|.jw (h171 true) [(2,2),(3,3)] rfl
          ·refine .g 4 rfl<|.jw (h171 (a0 == 7)) [(2,2),(3,3)] rfl
    ·intro h174
     refine .g 1 rfl<|?_
     refine .lp (fun n (x:Int)=>fun_Slope_l7 a2 a3 x95 a4 a0 n x) (fun x=>([eI 0 a0,eI 4 a4,eP 7 0,eP 8 1,eP 10 2,eP 12 3,eK kD 67 [a2,a3],eI 68 ([a2,a3].length:Int),eI 69 x],[(0,(.live 26 [(.bool a2.M.Neg),(slK (kInt .u32) a2.M.Mag),(.int .i64 a2.E)])),(1,(.live 26 [(.bool a3.M.Neg),(slK (kInt .u32) a3.M.Mag),(.int .i64 a3.E)])),(2,(.live 26 [(.bool false),(slK (kInt .u32) []),(.int .i64 0)])),(3,(.live 107 [(.bool x95.1),(.int .i64 x95.2.1),(.int .i64 x95.2.2.1),(.int .i64 x95.2.2.2.1),(.bool x95.2.2.2.2.1),(.str x95.2.2.2.2.2.1),.anyf]))])) 0 [(0,0),(1,1),(2,2),(3,3)] rfl ?_
     rintro n7 y185
     try dsimp only
     rw [fun_Slope_l7]
     refine .g 6 rfl<|?_
     refine .cd rfl (fun _ _=>?_) fun _ _=>?_
     ·refine .g 6 rfl<|.ix rfl rfl<|.g 9 rfl<|.p0 rfl rfl fun x187 _=>.g 9 rfl<|?_
      refine .cd rfl (fun _ _=>?_) fun _ _=>?_
      ·refine .g 14 rfl<|.fi rfl rfl
      ·refine .g 7 rfl<|.ag (IntKind.i64.wrap (y185+1)) [(0,0),(1,1),(2,2),(3,3)] rfl
     ·refine .g 4 rfl<|.jw (h174 ()) [(0,0),(1,1),(2,2)] rfl
 ·intro h205
  refine .g 4 rfl<|?_
  refine .gd 41 rfl (fun _=>?_) fun _=>?_
  ·refine .g 18 rfl<|.jw (h205 true) [(0,0),(1,1),(2,2),(3,3)] rfl
  ·refine .g 4 rfl<|?_
   refine .gd 45 rfl (fun _=>?_) fun _=>?_
   ·refine .g 14 rfl<|.jw (h205 true) [(0,0),(1,1),(2,2),(3,3)] rfl
   ·refine .g 4 rfl<|?_
    refine .gd 49 rfl (fun _=>?_) fun _=>?_
    ·refine .g 10 rfl<|.jw (h205 true) [(0,0),(1,1),(2,2),(3,3)] rfl
    ·refine .g 4 rfl<|?_
     refine .gd 53 rfl (fun _=>?_) fun _=>?_
     ·refine .g 6 rfl<|.jw (h205 true) [(0,0),(1,1),(2,2),(3,3)] rfl
     ·refine .g 2 rfl<|.p0 rfl rfl fun x188 _=>.g 3 rfl<|.jw (h205 (decide (x188>0))) [(0,0),(1,1),(2,2),(3,3)] rfl
instance cheb_Make_i (a0:Int) (a1:Int) (a2:AD) (a3:Int) (a4:Int):PC (cheb_Make a0 a1 a2 a3 a4) Tryz.prog 41 [(.int .i64 a0),(.int .i64 a1),(.agg (kD.enc a2)),(.int .i64 a3),(.int .i64 a4)] (fun r=>(.tup [(.agg (kApiPiece.enc (⟨⟨(((r.1).A).M),((r.1).A).E⟩,(r.1).W,(r.1).C,⟨(((r.1).Err).M),((r.1).Err).E⟩⟩:ApiPiece))),(.int .i64 r.2)])):=pc func41 (by kernel_rfl) rfl fun E=>by
 unfold cheb_Make
 refine .g 9 rfl<|?_
 refine .cut (fun x:Bool=>(cheb_Make_j1 a3 a2 a0 a1 a4 x,[eI 0 a0,eI 1 a1,eI 3 a3,eI 4 a4,eP 7 0,eP 10 1,eB 30 x],[(0,(.live 26 [(.bool a2.M.Neg),(slK (kInt .u32) a2.M.Mag),(.int .i64 a2.E)])),(1,(.live 69 [(.bool false),(slK (kInt .u32) []),(.int .i64 0),(.int .i64 0),.nilsl,(.bool false),(slK (kInt .u32) []),(.int .i64 0)]))])) ?_ ?_
 ·rintro y14
  dsimp only [cheb_Make_j1]
  refine .g 1 rfl<|?_
  refine .cd rfl (fun _ _=>?_) fun _ _=>?_
  ·refine .g 9 rfl<|.fj rfl rfl (by exact .tup (.cons (.agg (.cons (AVle.refl _) (.cons (AVle.refl _) (.cons (AVle.refl _) (.cons (AVle.refl _) (.cons AVle.nil (.cons (AVle.refl _) (.cons (AVle.refl _) (.cons (AVle.refl _) .nil))))))))) (.cons (AVle.refl _) .nil)))
  ·refine .g 6 rfl<|.p0 rfl rfl fun x15 _=>.p0 rfl rfl fun x16 _=>.g 6 rfl<|.dn (by kernel_rfl)<|.g 8 rfl<|?_
   refine .cd rfl (fun _ _=>?_) fun _ _=>?_
   ·refine .g 10 rfl<|.fj rfl rfl (by exact .tup (.cons (.agg (.cons (AVle.refl _) (.cons (AVle.refl _) (.cons (AVle.refl _) (.cons (AVle.refl _) (.cons AVle.nil (.cons (AVle.refl _) (.cons (AVle.refl _) (.cons (AVle.refl _) .nil))))))))) (.cons (AVle.refl _) .nil)))
   ·refine .g 10 rfl<|.p0 rfl rfl fun x17 _=>.g 15 rfl<|?_
    refine .cd rfl (fun _ _=>?_) fun _ _=>?_
    ·refine .g 10 rfl<|.fj rfl rfl (by exact .tup (.cons (.agg (.cons (AVle.refl _) (.cons (AVle.refl _) (.cons (AVle.refl _) (.cons (AVle.refl _) (.cons AVle.nil (.cons (AVle.refl _) (.cons (AVle.refl _) (.cons (AVle.refl _) .nil))))))))) (.cons (AVle.refl _) .nil)))
    ·refine .g 9 rfl<|.no
 ·intro h15
  refine .g 2 rfl<|.p0 rfl rfl fun x18 _=>.g 2 rfl<|?_
  refine .gd 21 rfl (fun _=>?_) fun _=>?_
  ·refine .g 10 rfl<|.jw (h15 true) [(0,0),(1,1)] rfl
  ·refine .g 1 rfl<|.p0 rfl rfl fun x19 _=>.g 3 rfl<|?_
   refine .gd 26 rfl (fun _=>?_) fun _=>?_
   ·refine .g 5 rfl<|.jw (h15 true) [(0,0),(1,1)] rfl
   ·refine .g 1 rfl<|.p0 rfl rfl fun x20 _=>.g 3 rfl<|.jw (h15 (!x20)) [(0,0),(1,1)] rfl
instance cheb_Build_i (a0:Int) (a1:Int) (a2:AD) (a3:Int) (a4:Int) (a5:Int) (a6:Int):PC (cheb_Build a0 a1 a2 a3 a4 a5 a6) Tryz.prog 44 [(.int .i64 a0),(.int .i64 a1),(.agg (kD.enc a2)),(.int .i64 a3),(.int .i64 a4),(.int .i64 a5),(.int .i64 a6)] (fun r=>(.tup [(.agg (kApiTable.enc (⟨(r.1).Fun,(r.1).Order,⟨(((r.1).A).M),((r.1).A).E⟩,(r.1).W,(r.1).Prec,(r.1).Degree,(r.1).Pieces⟩:ApiTable))),(.int .i64 r.2.1),(.int .i64 r.2.2)])):=pc func44 (by kernel_rfl) rfl fun E=>by
 unfold cheb_Build
 refine .g 10 rfl<|?_
 refine .cut (fun x:Bool=>(cheb_Build_j1 a2 a3 a6 a0 a1 a5 a4 x,[eI 0 a0,eI 1 a1,eI 3 a3,eI 4 a4,eI 5 a5,eI 6 a6,eP 9 0,eP 14 1,eI 15 0,eB 31 x],[(0,(.live 26 [(.bool a2.M.Neg),(slK (kInt .u32) a2.M.Mag),(.int .i64 a2.E)])),(1,(.live 77 [(.int .i64 0),(.int .i64 0),(.bool false),(slK (kInt .u32) []),(.int .i64 0),(.int .i64 0),(.int .i64 0),(.int .i64 0),.nilsl]))])) ?_ ?_
 ·rintro y27
  dsimp only [cheb_Build_j1]
  refine .g 1 rfl<|?_
  refine .cd rfl (fun _ _=>?_) fun _ _=>?_
  ·refine .g 10 rfl<|.fj rfl rfl (by exact .tup (.cons (.agg (.cons (AVle.refl _) (.cons (AVle.refl _) (.cons (AVle.refl _) (.cons (AVle.refl _) (.cons (AVle.refl _) (.cons (AVle.refl _) (.cons (AVle.refl _) (.cons (AVle.refl _) (.cons AVle.nil .nil)))))))))) (.cons (AVle.refl _) (.cons (AVle.refl _) .nil))))
  ·refine .g 25 rfl<|.st rfl (bs kChebPart [(⟨a2,a3⟩:ChebPart)] rfl rfl) rfl<|.bind fun x28 h5=>.st rfl (cl (CC.h h5) [2] [] [true] rfl (.p rfl<|.l<|.nil) (.p rfl (.cons .nilsl<|.nil) .nil) fnil (.cons (.v (.l<|.nil)) .nil) (ren_tupL .nil) (.turned .nil) rfl) rfl<|.g 2 rfl<|?_
   refine .cut (fun x:Unit=>(cheb_Build_j2 a0 a1 a2 a3 a4 a5,[eP 14 1,eI 15 0],[(1,(.live 77 [(.int .i64 a0),(.int .i64 a1),(.bool a2.M.Neg),(slK (kInt .u32) a2.M.Mag),(.int .i64 a2.E),(.int .i64 a3),(.int .i64 a4),(.int .i64 a5),.nilsl]))])) ?_ ?_
   ·rintro _
    dsimp only [cheb_Build_j2]
    refine .g 11 rfl<|.fj rfl rfl (by exact .tup (.cons (.agg (.cons (AVle.refl _) (.cons (AVle.refl _) (.cons (AVle.refl _) (.cons (AVle.refl _) (.cons (AVle.refl _) (.cons (AVle.refl _) (.cons (AVle.refl _) (.cons (AVle.refl _) (.cons AVle.nil .nil)))))))))) (.cons (AVle.refl _) (.cons (AVle.refl _) .nil))))
   ·intro h38
    refine .g 1 rfl<|?_
    refine .lp (fun n (x:Unit)=>cheb_Build_l3 x28 a6 a0 a1 a5 a4 a2 a3 n) (fun x=>([eI 0 a0,eI 1 a1,eI 4 a4,eI 5 a5,eI 6 a6,eP 14 1,eI 15 0,eP 17 2],[(1,(.live 77 [(.int .i64 a0),(.int .i64 a1),(.bool a2.M.Neg),(slK (kInt .u32) a2.M.Mag),(.int .i64 a2.E),(.int .i64 a3),(.int .i64 a4),(.int .i64 a5),.nilsl])),(2,(.live 163 [(slK kChebPart x28)]))])) () [(1,1),(2,2)] rfl ?_
    rintro n3 _
    try dsimp only
    rw [cheb_Build_l3]
    refine .g 4 rfl<|.ln rfl rfl<|.g 3 rfl<|?_
    refine .cd rfl (fun _ _=>?_) fun _ _=>?_
    ·refine .g 11 rfl<|?_
     refine .cd rfl (fun _ _=>?_) fun _ _=>?_
     ·refine .g 15 rfl<|.fj rfl rfl (by exact .tup (.cons (.agg (.cons (AVle.refl _) (.cons (AVle.refl _) (.cons (AVle.refl _) (.cons (AVle.refl _) (.cons (AVle.refl _) (.cons (AVle.refl _) (.cons (AVle.refl _) (.cons (AVle.refl _) (.cons AVle.nil .nil)))))))))) (.cons (AVle.refl _) (.cons (AVle.refl _) .nil))))
     ·refine .g 11 rfl<|.bind fun x50 h66=>.st rfl (cl (CC.h h66) [2] [] [true] rfl (.p rfl<|.nil) (.p rfl (.l<|.nil) .nil) fnil (.cons (.v (.l<|.nil)) .nil) (ren_agg (K:=kChebPart) _) (.turned .nil) rfl) rfl<|.g 13 rfl<|.p0 rfl rfl fun x51 _=>.g 15 rfl<|?_
      refine .cd rfl (fun _ _=>?_) fun _ _=>?_
      ·refine .g 15 rfl<|.fj rfl rfl (by exact .tup (.cons (.agg (.cons (AVle.refl _) (.cons (AVle.refl _) (.cons (AVle.refl _) (.cons (AVle.refl _) (.cons (AVle.refl _) (.cons (AVle.refl _) (.cons (AVle.refl _) (.cons (AVle.refl _) (.cons AVle.nil .nil)))))))))) (.cons (AVle.refl _) (.cons (AVle.refl _) .nil))))
      ·refine .g 10 rfl<|.p0 rfl rfl fun x52 _=>.no
    ·refine .g 4 rfl<|.jw (h38 ()) [(1,1)] rfl
 ·intro h71
  refine .g 4 rfl<|?_
  refine .gd 24 rfl (fun _=>?_) fun _=>?_
  ·refine .g 8 rfl<|.jw (h71 true) [(0,0),(1,1)] rfl
  ·refine .g 4 rfl<|?_
   refine .gd 28 rfl (fun _=>?_) fun _=>?_
   ·refine .g 4 rfl<|.jw (h71 true) [(0,0),(1,1)] rfl
   ·refine .g 4 rfl<|.jw (h71 (decide (a6<0))) [(0,0),(1,1)] rfl
instance r01_Bits_i (a0:List Int):PC (r01_Bits a0) Tryz.prog 166 [(slK (kInt .u32) a0)] (fun r=>(.int .i64 r)):=pc func166 (by kernel_rfl) rfl fun E=>by
 unfold r01_Bits
 refine .g 8 rfl<|.p0 rfl rfl fun x11 _=>.g 7 rfl<|.ln rfl rfl<|.g 3 rfl<|?_
 refine .cd rfl (fun _ _=>?_) fun _ _=>?_
 ·refine .g 7 rfl<|.fi rfl rfl
 ·refine .g 5 rfl<|.ln rfl rfl<|.g 10 rfl<|.ln rfl rfl<|.g 1 rfl<|.ix rfl rfl<|.g 4 rfl<|?_
  refine .cut (fun x:Int=>(r01_Bits_j1 x,[eI 4 x],[])) ?_ ?_
  ·rintro y16
   dsimp only [r01_Bits_j1]
   refine .g 8 rfl<|.fi rfl rfl
  ·intro h11
   refine .g 1 rfl<|?_
   refine .lp (fun n (x:Int × Int)=>r01_Bits_l2 n x.1 x.2) (fun x=>([eI 4 x.1,eW 5 x.2],[])) ((IntKind.i64.wrap (32*(IntKind.i64.wrap ((x11.length:Int)-1)))),(x11.getD ((IntKind.i64.wrap ((x11.length:Int)-1)).toNat) (kInt .u32).z)) [] rfl ?_
   rintro n2 ⟨y19,y20⟩
   try dsimp only
   rw [r01_Bits_l2]
   refine .g 7 rfl<|?_
   refine .cd rfl (fun _ _=>?_) fun _ _=>?_
   ·refine .g 16 rfl<|.ag ((IntKind.i64.wrap (y19+1)),(shrI .u32 y20 1)) [] rfl
   ·refine .g 4 rfl<|.jw (h11 y19) [] rfl
instance r05_size_i (a0:AD):PC (r05_size a0) Tryz.prog 167 [(.agg (kD.enc a0))] (fun r=>(.int .i64 r)):=pc func167 (by kernel_rfl) rfl fun E=>by
 unfold r05_size
 refine .g 13 rfl<|.p0 rfl rfl fun x2 _=>.g 2 rfl<|.dn (by kernel_rfl)<|.g 2 rfl<|.fi rfl rfl
instance r05_inRange_i (a0:AD):PC (r05_inRange a0) Tryz.prog 128 [(.agg (kD.enc a0))] (fun r=>(.bool r)):=pc func128 (by kernel_rfl) rfl fun E=>by
 unfold r05_inRange
 refine .g 12 rfl<|.ln rfl rfl<|.g 3 rfl<|?_
 refine .cd rfl (fun _ _=>?_) fun _ _=>?_
 ·refine .g 7 rfl<|.fi rfl rfl
 ·refine .g 5 rfl<|.p0 rfl rfl fun x5 _=>.g 4 rfl<|?_
  refine .cut (fun x:Bool=>(r05_inRange_j1 x,[eB 2 x],[])) ?_ ?_
  ·rintro y7
   dsimp only [r05_inRange_j1]
   refine .g 2 rfl<|.fi rfl rfl
  ·intro h9
   refine .g 4 rfl<|?_
   refine .gd 13 rfl (fun _=>?_) fun _=>?_
   ·refine .g 4 rfl<|?_
    refine .gd 17 rfl (fun _=>?_) fun _=>?_
    ·refine .g 5 rfl<|?_
     refine .gd 22 rfl (fun _=>?_) fun _=>?_
     ·refine .g 5 rfl<|?_
      refine .gd 27 rfl (fun _=>?_) fun _=>?_
      ·refine .g 3 rfl<|.p0 rfl rfl fun x8 _=>.g 4 rfl<|.jw (h9 (decide (x8≤262144))) [] rfl
      ·refine .g 8 rfl<|.jw (h9 false) [] rfl
     ·refine .g 13 rfl<|.jw (h9 false) [] rfl
    ·refine .g 18 rfl<|.jw (h9 false) [] rfl
   ·refine .g 22 rfl<|.jw (h9 false) [] rfl
instance r05_Make_i (a0:ApiInt) (a1:Int):PC (r05_Make a0 a1) Tryz.prog 47 [(.agg (kN.enc a0)),(.int .i64 a1)] (fun r=>(.tup [(.agg (kD.enc (⟨((r.1).M),(r.1).E⟩:AD))),(.bool r.2)])):=pc func47 (by kernel_rfl) rfl fun E=>by
 unfold r05_Make
 refine .g 9 rfl<|?_
 refine .cut (fun x:Bool=>(r05_Make_j1 a0 a1 x,[eI 1 a1,eP 2 0,eP 4 1,eB 13 x],[(0,(.live 24 [(.bool a0.Neg),(slK (kInt .u32) a0.Mag)])),(1,(.live 26 [(.bool false),(slK (kInt .u32) []),(.int .i64 0)]))])) ?_ ?_
 ·rintro y4
  dsimp only [r05_Make_j1]
  refine .g 1 rfl<|?_
  refine .cd rfl (fun _ _=>?_) fun _ _=>?_
  ·refine .g 9 rfl<|.fi rfl rfl
  ·refine .g 6 rfl<|.p0 rfl rfl fun x5 _=>.g 7 rfl<|.p0 rfl rfl fun x6 _=>.g 10 rfl<|?_
   refine .cd rfl (fun _ _=>?_) fun _ _=>?_
   ·refine .g 9 rfl<|.fi rfl rfl
   ·refine .g 10 rfl<|.fi rfl rfl
 ·intro h8
  refine .g 4 rfl<|?_
  refine .gd 10 rfl (fun _=>?_) fun _=>?_
  ·refine .g 4 rfl<|.jw (h8 true) [(0,0),(1,1)] rfl
  ·refine .g 4 rfl<|.jw (h8 (decide (a1>100000))) [(0,0),(1,1)] rfl
instance r05_Half_i (a0:Int):PC (r05_Half a0) Tryz.prog 74 [(.int .i64 a0)] (fun r=>(.agg (kD.enc (⟨((r).M),(r).E⟩:AD)))):=pc func74 (by kernel_rfl) rfl fun E=>by
 unfold r05_Half
 refine .g 7 rfl<|.p0 rfl rfl fun x3 _=>.g 1 rfl<|.p0 rfl rfl fun x4 _=>.g 15 rfl<|.fi rfl rfl
instance r04_Right_i (a0:ApiInt):PC (r04_Right a0) Tryz.prog 228 [(.agg (kN.enc a0))] (fun r=>(.bool r)):=pc func228 (by kernel_rfl) rfl fun E=>by
 unfold r04_Right
 refine .g 10 rfl<|.ln rfl rfl<|.g 4 rfl<|?_
 refine .cut (fun x:Bool=>(r04_Right_j1 x,[eB 2 x],[])) ?_ ?_
 ·rintro y2
  dsimp only [r04_Right_j1]
  refine .g 2 rfl<|.fi rfl rfl
 ·intro h7
  refine .g 4 rfl<|?_
  refine .gd 9 rfl (fun _=>?_) fun _=>?_
  ·refine .g 5 rfl<|?_
   refine .gd 14 rfl (fun _=>?_) fun _=>?_
   ·refine .g 14 rfl<|.jw (h7 true) [] rfl
   ·refine .g 3 rfl<|?_
    refine .gd 17 rfl (fun _=>?_) fun _=>?_
    ·refine .g 4 rfl<|.ix rfl rfl<|.g 6 rfl<|.jw (h7 ((a0.Mag.getD ((IntKind.i64.wrap ((a0.Mag.length:Int)-1)).toNat) (kInt .u32).z) != 0)) [] rfl
    ·refine .g 11 rfl<|.jw (h7 false) [] rfl
  ·refine .g 8 rfl<|?_
   refine .gd 17 rfl (fun _=>?_) fun _=>?_
   ·refine .g 4 rfl<|.ix rfl rfl<|.g 6 rfl<|.jw (h7 ((a0.Mag.getD ((IntKind.i64.wrap ((a0.Mag.length:Int)-1)).toNat) (kInt .u32).z) != 0)) [] rfl
   ·refine .g 11 rfl<|.jw (h7 false) [] rfl
instance r05_Right_i (a0:AD):PC (r05_Right a0) Tryz.prog 146 [(.agg (kD.enc a0))] (fun r=>(.bool r)):=pc func146 (by kernel_rfl) rfl fun E=>by
 unfold r05_Right
 refine .g 10 rfl<|.p0 rfl rfl fun x3 _=>.g 10 rfl<|?_
 refine .cd rfl (fun _ _=>?_) fun _ _=>?_
 ·refine .g 7 rfl<|.fi rfl rfl
 ·refine .g 8 rfl<|.ln rfl rfl<|.g 3 rfl<|?_
  refine .cd rfl (fun _ _=>?_) fun _ _=>?_
  ·refine .g 10 rfl<|.fi rfl rfl
  ·refine .g 3 rfl<|?_
   refine .cut (fun x:Bool=>(r05_Right_j1 x,[eB 2 x],[])) ?_ ?_
   ·rintro y4
    dsimp only [r05_Right_j1]
    refine .g 2 rfl<|.fi rfl rfl
   ·intro h9
    refine .g 4 rfl<|.ix rfl rfl<|.g 4 rfl<|?_
    refine .gd 24 rfl (fun _=>?_) fun _=>?_
    ·refine .g 5 rfl<|?_
     refine .gd 29 rfl (fun _=>?_) fun _=>?_
     ·refine .g 6 rfl<|.jw (h9 (decide (a0.E≤131072))) [] rfl
     ·refine .g 6 rfl<|.jw (h9 false) [] rfl
    ·refine .g 11 rfl<|.jw (h9 false) [] rfl
instance r01_Cmp_i (a0:List Int) (a1:List Int):PC (r01_Cmp a0 a1) Tryz.prog 265 [(slK (kInt .u32) a0),(slK (kInt .u32) a1)] (fun r=>(.int .i64 r)):=pc func265 (by kernel_rfl) rfl fun E=>by
 unfold r01_Cmp
 refine .g 9 rfl<|.ln rfl rfl<|.g 1 rfl<|.ln rfl rfl<|.g 5 rfl<|?_
 refine .cut (fun x:Unit=>(r01_Cmp_j1,[],[])) ?_ ?_
 ·rintro _
  dsimp only [r01_Cmp_j1]
  refine .g 7 rfl<|.fi rfl rfl
 ·intro h55
  refine .g 1 rfl<|?_
  refine .lp (fun n (x:Int)=>r01_Cmp_l2 a0 a1 n x) (fun x=>([eL 0 a0,eL 1 a1,eI 5 x],[])) (IntKind.i64.wrap ((mx (a0.length:Int) (a1.length:Int))-1)) [] rfl ?_
  rintro n2 y96
  try dsimp only
  rw [r01_Cmp_l2]
  refine .g 7 rfl<|?_
  refine .cd rfl (fun _ _=>?_) fun _ _=>?_
  ·refine .g 9 rfl<|.p0 rfl rfl fun x101 _=>.g 2 rfl<|.p0 rfl rfl fun x102 _=>.g 3 rfl<|?_
   refine .cd rfl (fun _ _=>?_) fun _ _=>?_
   ·refine .g 12 rfl<|.fi rfl rfl
   ·refine .g 6 rfl<|.p0 rfl rfl fun x103 _=>.g 2 rfl<|.p0 rfl rfl fun x104 _=>.g 3 rfl<|?_
    refine .cd rfl (fun _ _=>?_) fun _ _=>?_
    ·refine .g 11 rfl<|.fi rfl rfl
    ·refine .g 8 rfl<|.ag (IntKind.i64.wrap (y96-1)) [] rfl
  ·refine .g 4 rfl<|.jw (h55 ()) [] rfl
instance r04_Cmp_i (a0:ApiInt) (a1:ApiInt):PC (r04_Cmp a0 a1) Tryz.prog 168 [(.agg (kN.enc a0)),(.agg (kN.enc a1))] (fun r=>(.int .i64 r)):=pc func168 (by kernel_rfl) rfl fun E=>by
 unfold r04_Cmp
 refine .g 13 rfl<|.p0 rfl rfl fun x10 _=>.g 10 rfl<|.p0 rfl rfl fun x11 _=>.g 7 rfl<|?_
 refine .cut (fun x:Bool=>(r04_Cmp_j1 x10 x11 x,[eP 5 2,eP 6 3,eB 17 x],[(2,(.live 24 [(.bool ((x10).Neg)),(slK (kInt .u32) ((x10).Mag))])),(3,(.live 24 [(.bool ((x11).Neg)),(slK (kInt .u32) ((x11).Mag))]))])) ?_ ?_
 ·rintro y15
  dsimp only [r04_Cmp_j1]
  refine .g 1 rfl<|?_
  refine .cd rfl (fun _ _=>?_) fun _ _=>?_
  ·refine .g 8 rfl<|.fi rfl rfl
  ·refine .g 1 rfl<|?_
   refine .cut (fun x:Bool=>(r04_Cmp_j2 x10 x11 x,[eP 5 2,eP 6 3,eB 25 x],[(2,(.live 24 [(.bool ((x10).Neg)),(slK (kInt .u32) ((x10).Mag))])),(3,(.live 24 [(.bool ((x11).Neg)),(slK (kInt .u32) ((x11).Mag))]))])) ?_ ?_
   ·rintro y16
    dsimp only [r04_Cmp_j2]
    refine .g 1 rfl<|?_
    refine .cd rfl (fun _ _=>?_) fun _ _=>?_
    ·refine .g 8 rfl<|.fi rfl rfl
    ·refine .g 7 rfl<|?_
     refine .cd rfl (fun _ _=>?_) fun _ _=>?_
     ·refine .g 6 rfl<|.p0 rfl rfl fun x17 _=>.g 6 rfl<|.fi rfl rfl
     ·refine .g 9 rfl<|.p0 rfl rfl fun x18 _=>.g 4 rfl<|.fi rfl rfl
   ·intro h24
    refine .g 5 rfl<|?_
    refine .gd 29 rfl (fun _=>?_) fun _=>?_
    ·refine .g 5 rfl<|.jw (h24 (x11).Neg) [(2,2),(3,3)] rfl
    ·refine .g 5 rfl<|.jw (h24 false) [(2,2),(3,3)] rfl
 ·intro h26
  refine .g 4 rfl<|?_
  refine .gd 20 rfl (fun _=>?_) fun _=>?_
  ·refine .g 6 rfl<|.jw (h26 (!((x11).Neg))) [(2,2),(3,3)] rfl
  ·refine .g 6 rfl<|.jw (h26 false) [(2,2),(3,3)] rfl
instance r01_Shl_i (a0:List Int) (a1:Int):PC (r01_Shl a0 a1) Tryz.prog 323 [(slK (kInt .u32) a0),(.int .i64 a1)] (fun r=>(.tup [(slK (kInt .u32) r.1),(.bool r.2)])):=pc func323 (by kernel_rfl) rfl fun E=>by
 unfold r01_Shl
 refine .g 8 rfl<|?_
 refine .cut (fun x:Bool=>(r01_Shl_j1 a1 a0 x,[eL 0 a0,eI 1 a1,eB 15 x],[])) ?_ ?_
 ·rintro y17
  dsimp only [r01_Shl_j1]
  refine .g 1 rfl<|?_
  refine .cd rfl (fun _ _=>?_) fun _ _=>?_
  ·refine .g 8 rfl<|.fj rfl rfl (by exact .tup (.cons AVle.nil (.cons (AVle.refl _) .nil)))
  ·refine .g 6 rfl<|.guard fun h4=>.sv (.row 0 (kInt .u32).sz 0 (((List.replicate ((IntKind.i64.wrap (a1.tdiv 32)).toNat) (kInt .u32).z)).length)) [(0,(rwK (kInt .u32) 117 (List.replicate ((IntKind.i64.wrap (a1.tdiv 32)).toNat) (kInt .u32).z)))] rfl (snd_makeK (kInt .u32) _ _ _ _ _ 0 _ _ _ rfl underlying22 ze117 sb117 (by decide) rfl rfl rfl rfl rfl h4) rfl<|.g 14 rfl<|?_
   refine .cut (fun x:Int × (List Int)=>(r01_Shl_j2 x.1 x.2,[(6,some (.row 0 (kInt .u32).sz 0 ((x.2).length))),eX 7 x.1],[(0,(rwK (kInt .u32) 117 x.2))])) ?_ ?_
   ·rintro ⟨y24,y25⟩
    dsimp only [r01_Shl_j2]
    refine .g 6 rfl<|.st rfl (bs (kInt .u32) [(IntKind.u32.wrap y24)] rfl rfl) rfl<|.guard fun h29=>.sv (.row 1 (kInt .u32).sz 0 (((y25++[(IntKind.u32.wrap y24)])).length)) [(1,(rwK (kInt .u32) 117 (y25++[(IntKind.u32.wrap y24)]))),(0,.dead)] rfl (snd_appendK (kInt .u32) _ _ _ _ _ 0 1 y25 [(IntKind.u32.wrap y24)] rfl underlying22 ze117 sb117 rfl rfl rfl rfl rfl rfl h29) rfl<|?_
    refine .weak ?_ (fun a w h=>Conc.freezeK (kInt .u32) h 46 1 0 (((y25++[(IntKind.u32.wrap y24)])).length) 117 (y25++[(IntKind.u32.wrap y24)]) rfl rfl (by omega))
    refine .weak ?_ (fun a w h=>take_all h)
    refine .p0 rfl rfl fun x26 _=>.g 5 rfl<|.fi rfl rfl
   ·intro h31
    refine .g 1 rfl<|?_
    refine .lp (fun n (x:Int × Int × (List Int))=>r01_Shl_l3 a0 a1 n x.1 x.2.1 x.2.2) (fun x=>([eL 0 a0,eI 1 a1,(6,some (.row 0 (kInt .u32).sz 0 ((x.2.2).length))),eX 7 x.1,eI 8 x.2.1],[(0,(rwK (kInt .u32) 117 x.2.2))])) (0,0,(List.replicate ((IntKind.i64.wrap (a1.tdiv 32)).toNat) (kInt .u32).z)) [(0,0)] rfl ?_
    rintro n3 ⟨y30,y31,y32⟩
    try dsimp only
    rw [r01_Shl_l3]
    refine .g 5 rfl<|.ln rfl rfl<|.g 3 rfl<|?_
    refine .cd rfl (fun _ _=>?_) fun _ _=>?_
    ·refine .g 8 rfl<|.ix rfl rfl<|.g 4 rfl<|.guard fun h54=>.st rfl (snd_shl _ _ _ _ _ _ _ _ rfl rfl rfl rfl rfl h54) rfl<|.g 10 rfl<|.st rfl (bs (kInt .u32) [(IntKind.u32.wrap (orI .u64 (shlI .u64 (IntKind.u64.wrap (a0.getD y31.toNat (kInt .u32).z)) (a1.tmod 32)) y30))] rfl rfl) rfl<|.guard fun h55=>.sv (.row 1 (kInt .u32).sz 0 (((y32++[(IntKind.u32.wrap (orI .u64 (shlI .u64 (IntKind.u64.wrap (a0.getD y31.toNat (kInt .u32).z)) (a1.tmod 32)) y30))])).length)) [(1,(rwK (kInt .u32) 117 (y32++[(IntKind.u32.wrap (orI .u64 (shlI .u64 (IntKind.u64.wrap (a0.getD y31.toNat (kInt .u32).z)) (a1.tmod 32)) y30))]))),(0,.dead)] rfl (snd_appendK (kInt .u32) _ _ _ _ _ 0 1 y32 [(IntKind.u32.wrap (orI .u64 (shlI .u64 (IntKind.u64.wrap (a0.getD y31.toNat (kInt .u32).z)) (a1.tmod 32)) y30))] rfl underlying22 ze117 sb117 rfl rfl rfl rfl rfl rfl h55) rfl<|.g 15 rfl<|.ag ((shrI .u64 (orI .u64 (shlI .u64 (IntKind.u64.wrap (a0.getD y31.toNat (kInt .u32).z)) (a1.tmod 32)) y30) 32),(IntKind.i64.wrap (y31+1)),(y32++[(IntKind.u32.wrap (orI .u64 (shlI .u64 (IntKind.u64.wrap (a0.getD y31.toNat (kInt .u32).z)) (a1.tmod 32)) y30))])) [(1,0)] rfl
    ·refine .g 4 rfl<|.jw (h31 (y30,y32)) [(0,0)] rfl
 ·intro h56
  refine .g 4 rfl<|?_
  refine .gd 12 rfl (fun _=>?_) fun _=>?_
  ·refine .g 4 rfl<|.jw (h56 true) [] rfl
  ·refine .g 4 rfl<|.jw (h56 (decide (a1>100000))) [] rfl
instance r05_up_i (a0:ApiInt) (a1:Int):PC (r05_up a0 a1) Tryz.prog 266 [(.agg (kN.enc a0)),(.int .i64 a1)] (fun r=>(.agg (kN.enc (r)))):=pc func266 (by kernel_rfl) rfl fun E=>by
 unfold r05_up
 refine .g 14 rfl<|?_
 refine .cut (fun x:(List Int)=>(r05_up_j1 a0 x,[eP 2 0,eP 4 1,eL 5 x],[(0,(.live 24 [(.bool a0.Neg),(slK (kInt .u32) a0.Mag)])),(1,(.live 24 [(.bool false),(slK (kInt .u32) [])]))])) ?_ ?_
 ·rintro y33
  dsimp only [r05_up_j1]
  refine .g 6 rfl<|.p0 rfl rfl fun x34 _=>.g 4 rfl<|.fi rfl rfl
 ·intro h14
  refine .g 1 rfl<|?_
  refine .lp (fun n (x:Int × (List Int))=>r05_up_l2 a0 n x.1 x.2) (fun x=>([eI 1 x.1,eP 2 0,eP 4 1,eL 5 x.2],[(0,(.live 24 [(.bool a0.Neg),(slK (kInt .u32) a0.Mag)])),(1,(.live 24 [(.bool false),(slK (kInt .u32) [])]))])) (a1,a0.Mag) [(0,0),(1,1)] rfl ?_
  rintro n2 ⟨y41,y42⟩
  try dsimp only
  rw [r05_up_l2]
  refine .g 7 rfl<|?_
  refine .cd rfl (fun _ _=>?_) fun _ _=>?_
  ·refine .g 14 rfl<|.p0 rfl rfl fun x44 _=>.g 13 rfl<|.ag ((IntKind.i64.wrap (y41-(mn y41 100000))),x44.1) [(0,0),(1,1)] rfl
  ·refine .g 4 rfl<|.jw (h14 y42) [(0,0),(1,1)] rfl
instance r05_lift_i (a0:AD) (a1:AD):PC (r05_lift a0 a1) Tryz.prog 169 [(.agg (kD.enc a0)),(.agg (kD.enc a1))] (fun r=>(.tup [(.agg (kN.enc (r.1))),(.agg (kN.enc (r.2.1))),(.int .i64 r.2.2)])):=pc func169 (by kernel_rfl) rfl fun E=>by
 unfold r05_lift
 refine .g 16 rfl<|.ln rfl rfl<|.g 4 rfl<|?_
 refine .cd rfl (fun _ _=>?_) fun _ _=>?_
 ·refine .g 10 rfl<|.dn (by kernel_rfl)<|.g 4 rfl<|.fi rfl rfl
 ·refine .g 5 rfl<|.ln rfl rfl<|.g 4 rfl<|?_
  refine .cd rfl (fun _ _=>?_) fun _ _=>?_
  ·refine .g 10 rfl<|.dn (by kernel_rfl)<|.g 4 rfl<|.fi rfl rfl
  ·refine .g 10 rfl<|?_
   refine .cd rfl (fun _ _=>?_) fun _ _=>?_
   ·refine .g 9 rfl<|.p0 rfl rfl fun x5 _=>.g 7 rfl<|.dn (by kernel_rfl)<|.g 4 rfl<|.fi rfl rfl
   ·refine .g 14 rfl<|.p0 rfl rfl fun x6 _=>.g 5 rfl<|.dn (by kernel_rfl)<|.g 2 rfl<|.fi rfl rfl
instance r05_Cmp_i (a0:AD) (a1:AD):PC (r05_Cmp a0 a1) Tryz.prog 73 [(.agg (kD.enc a0)),(.agg (kD.enc a1))] (fun r=>(.int .i64 r)):=pc func73 (by kernel_rfl) rfl fun E=>by
 unfold r05_Cmp
 refine .g 10 rfl<|.p0 rfl rfl fun x12 _=>.g 6 rfl<|.p0 rfl rfl fun x13 _=>.g 5 rfl<|?_
 refine .cut (fun x:Bool=>(r05_Cmp_j1 a0 a1 x,[eP 2 0,eP 3 1,eB 19 x],[(0,(.live 26 [(.bool a0.M.Neg),(slK (kInt .u32) a0.M.Mag),(.int .i64 a0.E)])),(1,(.live 26 [(.bool a1.M.Neg),(slK (kInt .u32) a1.M.Mag),(.int .i64 a1.E)]))])) ?_ ?_
 ·rintro y14
  dsimp only [r05_Cmp_j1]
  refine .g 1 rfl<|?_
  refine .cd rfl (fun _ _=>?_) fun _ _=>?_
  ·refine .g 7 rfl<|.fi rfl rfl
  ·refine .g 4 rfl<|?_
   refine .cut (fun x:Bool=>(r05_Cmp_j2 a0 a1 x,[eP 2 0,eP 3 1,eB 40 x],[(0,(.live 26 [(.bool a0.M.Neg),(slK (kInt .u32) a0.M.Mag),(.int .i64 a0.E)])),(1,(.live 26 [(.bool a1.M.Neg),(slK (kInt .u32) a1.M.Mag),(.int .i64 a1.E)]))])) ?_ ?_
   ·rintro y15
    dsimp only [r05_Cmp_j2]
    refine .g 1 rfl<|?_
    refine .cd rfl (fun _ _=>?_) fun _ _=>?_
    ·refine .g 6 rfl<|.p0 rfl rfl fun x16 _=>.g 5 rfl<|.fi rfl rfl
    ·refine .g 6 rfl<|.p0 rfl rfl fun x17 _=>.g 1 rfl<|.p0 rfl rfl fun x18 _=>.g 1 rfl<|.dn (by kernel_rfl)<|.g 1 rfl<|?_
     refine .cd rfl (fun _ _=>?_) fun _ _=>?_
     ·refine .g 4 rfl<|.p0 rfl rfl fun x19 _=>.g 1 rfl<|.p0 rfl rfl fun x20 _=>.g 5 rfl<|.dn (by kernel_rfl)<|.g 1 rfl<|?_
      refine .cd rfl (fun _ _=>?_) fun _ _=>?_
      ·refine .g 8 rfl<|.fi rfl rfl
      ·refine .g 9 rfl<|.fi rfl rfl
     ·refine .g 6 rfl<|.p0 rfl rfl fun x21 _=>.g 15 rfl<|.p0 rfl rfl fun x22 _=>.g 4 rfl<|.fi rfl rfl
   ·intro h21
    refine .g 9 rfl<|?_
    refine .gd 27 rfl (fun _=>?_) fun _=>?_
    ·refine .g 14 rfl<|.jw (h21 true) [(0,0),(1,1)] rfl
    ·refine .g 3 rfl<|.ln rfl rfl<|.g 3 rfl<|?_
     refine .gd 34 rfl (fun _=>?_) fun _=>?_
     ·refine .g 7 rfl<|.jw (h21 true) [(0,0),(1,1)] rfl
     ·refine .g 3 rfl<|.ln rfl rfl<|.g 3 rfl<|.jw (h21 ((a1.M.Mag.length:Int) == 0)) [(0,0),(1,1)] rfl
 ·intro h24
  refine .g 4 rfl<|?_
  refine .gd 16 rfl (fun _=>?_) fun _=>?_
  ·refine .g 4 rfl<|.jw (h24 true) [(0,0),(1,1)] rfl
  ·refine .g 4 rfl<|.jw (h24 (!x13)) [(0,0),(1,1)] rfl
instance l15_examples_i:PC (l15_examples) Tryz.prog 36 [] (fun r=>(.bool r)):=pc func36 (by kernel_rfl) rfl fun E=>by
 unfold l15_examples
 refine .g 7 rfl<|.p0 rfl rfl fun x14 _=>.g 10 rfl<|.p0 rfl rfl fun x15 _=>.p0 rfl rfl fun x16 _=>.g 12 rfl<|.p0 rfl rfl fun x17 _=>.g 9 rfl<|?_
 refine .cut (fun x:Bool=>(l15_examples_j1 x,[eB 0 x],[])) ?_ ?_
 ·rintro y22
  dsimp only [l15_examples_j1]
  refine .g 2 rfl<|.fi rfl rfl
 ·intro h14
  refine .g 4 rfl<|?_
  refine .gd 24 rfl (fun _=>?_) fun _=>?_
  ·refine .g 4 rfl<|?_
   refine .gd 28 rfl (fun _=>?_) fun _=>?_
   ·refine .g 4 rfl<|?_
    refine .gd 32 rfl (fun _=>?_) fun _=>?_
    ·refine .g 4 rfl<|?_
     refine .gd 36 rfl (fun _=>?_) fun _=>?_
     ·refine .g 1 rfl<|.p0 rfl rfl fun x23 _=>.p0 rfl rfl fun x24 _=>.g 3 rfl<|?_
      refine .gd 42 rfl (fun _=>?_) fun _=>?_
      ·refine .g 1 rfl<|.p0 rfl rfl fun x25 _=>.p0 rfl rfl fun x26 _=>.g 3 rfl<|.dn (by kernel_rfl)<|.jw (h14 (decide (x26<0))) [] rfl
      ·refine .g 6 rfl<|.dn (by kernel_rfl)<|.jw (h14 false) [] rfl
     ·refine .g 12 rfl<|.dn (by kernel_rfl)<|.jw (h14 false) [] rfl
    ·refine .g 16 rfl<|.dn (by kernel_rfl)<|.jw (h14 false) [] rfl
   ·refine .g 20 rfl<|.dn (by kernel_rfl)<|.jw (h14 false) [] rfl
  ·refine .g 24 rfl<|.dn (by kernel_rfl)<|.jw (h14 false) [] rfl
instance l15_ChebFalls_i (a0:Int) (a1:Int):PC (l15_ChebFalls a0 a1) Tryz.prog 11 [(.int .i64 a0),(.int .i64 a1)] (fun r=>(.bool r)):=pc func11 (by kernel_rfl) rfl fun E=>by
 unfold l15_ChebFalls
 refine .g 7 rfl<|.p0 rfl rfl fun x22 _=>.g 10 rfl<|?_
 refine .cd rfl (fun _ _=>?_) fun _ _=>?_
 ·refine .g 7 rfl<|.fi rfl rfl
 ·refine .g 9 rfl<|?_
  refine .cut (fun x:Int=>(l15_ChebFalls_j1 a1 x22 x,[eI 0 x,eI 1 a1,eB 5 x22],[])) ?_ ?_
  ·rintro y23
   dsimp only [l15_ChebFalls_j1]
   refine .g 8 rfl<|?_
   refine .cut (fun x:Int=>(l15_ChebFalls_j2 y23 x22 x,[eI 0 y23,eI 1 x,eB 5 x22],[])) ?_ ?_
   ·rintro y24
    dsimp only [l15_ChebFalls_j2]
    refine .g 13 rfl<|.guard fun h8=>.st rfl (snd_rem _ _ _ _ _ _ _ rfl rfl rfl rfl rfl h8) rfl<|.g 7 rfl<|.p0 rfl rfl fun x25 _=>.g 13 rfl<|.p0 rfl rfl fun x26 _=>.g 14 rfl<|.p0 rfl rfl fun x27 _=>.g 12 rfl<|.p0 rfl rfl fun x28 _=>.g 10 rfl<|.p0 rfl rfl fun x29 _=>.p0 rfl rfl fun x30 _=>?_
    refine .p0 rfl rfl fun x31 _=>.g 7 rfl<|.p0 rfl rfl fun x32 _=>.p0 rfl rfl fun x33 _=>.g 6 rfl<|?_
    refine .cut (fun x:Bool=>(l15_ChebFalls_j3 x,[eB 4 x],[])) ?_ ?_
    ·rintro y38
     dsimp only [l15_ChebFalls_j3]
     refine .g 2 rfl<|.fi rfl rfl
    ·intro h30
     refine .g 3 rfl<|?_
     refine .gd 70 rfl (fun _=>?_) fun _=>?_
     ·refine .g 4 rfl<|?_
      refine .gd 74 rfl (fun _=>?_) fun _=>?_
      ·refine .g 4 rfl<|?_
       refine .gd 78 rfl (fun _=>?_) fun _=>?_
       ·refine .g 4 rfl<|?_
        refine .gd 82 rfl (fun _=>?_) fun _=>?_
        ·refine .g 4 rfl<|?_
         refine .gd 86 rfl (fun _=>?_) fun _=>?_
         ·refine .g 2 rfl<|.p0 rfl rfl fun x39 _=>.g 3 rfl<|?_
          refine .gd 92 rfl (fun _=>?_) fun _=>?_
          ·refine .g 2 rfl<|.p0 rfl rfl fun x40 _=>.g 2 rfl<|?_
           refine .gd 97 rfl (fun _=>?_) fun _=>?_
           ·refine .g 2 rfl<|.p0 rfl rfl fun x41 _=>.g 2 rfl<|?_
            refine .gd 102 rfl (fun _=>?_) fun _=>?_
            ·refine .g 2 rfl<|.p0 rfl rfl fun x42 _=>.g 3 rfl<|.jw (h30 x42) [] rfl
            ·refine .g 6 rfl<|.jw (h30 false) [] rfl
           ·refine .g 11 rfl<|.jw (h30 false) [] rfl
          ·refine .g 16 rfl<|.jw (h30 false) [] rfl
         ·refine .g 22 rfl<|.jw (h30 false) [] rfl
        ·refine .g 26 rfl<|.jw (h30 false) [] rfl
       ·refine .g 30 rfl<|.jw (h30 false) [] rfl
      ·refine .g 34 rfl<|.jw (h30 false) [] rfl
     ·refine .g 38 rfl<|.jw (h30 false) [] rfl
   ·intro h43
    refine .cd rfl (fun _ _=>?_) fun _ _=>?_
    ·refine .g 6 rfl<|.jw (h43 (IntKind.i64.wrap (0-(IntKind.i64.wrap (a1+1))))) [] rfl
    ·refine .g 1 rfl<|.jw (h43 a1) [] rfl
  ·intro h46
   refine .cd rfl (fun _ _=>?_) fun _ _=>?_
   ·refine .g 6 rfl<|.jw (h46 (IntKind.i64.wrap (0-(IntKind.i64.wrap (a0+1))))) [] rfl
   ·refine .g 1 rfl<|.jw (h46 a0) [] rfl
end Go.Proofs.YtoakhpdeadglpaaGreat.Gen
