/- Printed by geng.py: a call does what the plain function says. -/
import Derived.Test.YtoakhpdeadglpaaGreatChebNodesGenP7
set_option linter.unusedVariables false
set_option linter.unusedSimpArgs false
set_option maxRecDepth 4000
set_option synthInstance.maxSize 4000
set_option synthInstance.maxHeartbeats 400000
namespace Go.Proofs.YtoakhpdeadglpaaGreat.Gen
open Go Go.Abs Go.Proofs Go.Proofs.Tryz
instance l15_dy_i (a0:AD) (a1:AD):PC (l15_dy a0 a1) Tryz.prog 39 [(.agg (kD.enc a0)),(.agg (kD.enc a1))] (fun r=>(.bool r)):=pc func39 (by kernel_rfl) rfl fun E=>by
 unfold l15_dy
 refine .g 11 rfl<|.p0 rfl rfl fun x2 _=>.g 4 rfl<|.fi rfl rfl
instance l15_ChebNodes_i (a0:Int) (a1:Int):PC (l15_ChebNodes a0 a1) Tryz.prog 7 [(.int .i64 a0),(.int .i64 a1)] (fun r=>(.bool r)):=pc func7 (by kernel_rfl) rfl fun E=>by
 unfold l15_ChebNodes
 refine .g 7 rfl<|.p0 rfl rfl fun x6 _=>.g 10 rfl<|?_
 refine .cd rfl (fun _ _=>?_) fun _ _=>?_
 ·refine .g 7 rfl<|.fi rfl rfl
 ·refine .g 6 rfl<|.p0 rfl rfl fun x7 _=>.g 12 rfl<|.p0 rfl rfl fun x8 _=>.g 12 rfl<|.p0 rfl rfl fun x9 _=>.g 4 rfl<|?_
  refine .cut (fun x:Bool=>(l15_ChebNodes_j1 x,[eB 4 x],[])) ?_ ?_
  ·rintro y10
   dsimp only [l15_ChebNodes_j1]
   refine .g 2 rfl<|.fi rfl rfl
  ·intro h9
   refine .g 3 rfl<|?_
   refine .gd 30 rfl (fun _=>?_) fun _=>?_
   ·refine .g 3 rfl<|?_
    refine .gd 33 rfl (fun _=>?_) fun _=>?_
    ·refine .g 6 rfl<|.jw (h9 (x7.2 == x8.2)) [] rfl
    ·refine .g 6 rfl<|.jw (h9 false) [] rfl
   ·refine .g 9 rfl<|.jw (h9 false) [] rfl
end Go.Proofs.YtoakhpdeadglpaaGreat.Gen
