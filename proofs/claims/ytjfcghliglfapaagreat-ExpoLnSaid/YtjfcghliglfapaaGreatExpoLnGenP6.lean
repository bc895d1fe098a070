/- Printed by geng.py: a call does what the plain function says. -/
import Derived.Test.YtjfcghliglfapaaGreatExpoLnGenP5
set_option maxRecDepth 4000
namespace Go.Proofs.YtjfcghliglfapaaGreat.Gen
open Go Go.Abs Go.Proofs Go.Proofs.Tryz
instance l09_ExpoLn_i (a0:AD) (a1:Int):PC (l09_ExpoLn a0 a1) Tryz.prog 4 [(.agg (kD.enc a0)),(.int .i64 a1)] (fun r=>(.bool r)):=pc func4 (by kernel_rfl) rfl fun E=>by
 unfold l09_ExpoLn
 refine .g 8 rfl<|.p0 rfl rfl fun x7 _=>.g 10 rfl<|?_
 refine .cd rfl (fun _ _=>?_) fun _ _=>?_
 ·refine .g 7 rfl<|.fi rfl rfl
 ·refine .g 5 rfl<|.p0 rfl rfl fun x8 _=>.g 14 rfl<|.p0 rfl rfl fun x9 _=>.g 12 rfl<|.p0 rfl rfl fun x10 _=>.g 12 rfl<|.p0 rfl rfl fun x11 _=>.g 4 rfl<|?_
  refine .cut (fun x:Bool=>(l09_ExpoLn_j1 x,[eB 4 x],[])) ?_ ?_
  ·rintro y12
   dsimp only [l09_ExpoLn_j1]
   refine .g 2 rfl<|.fi rfl rfl
  ·intro h10
   refine .g 3 rfl<|?_
   refine .gd 34 rfl (fun _=>?_) fun _=>?_
   ·refine .g 3 rfl<|?_
    refine .gd 37 rfl (fun _=>?_) fun _=>?_
    ·refine .g 6 rfl<|.jw (h10 (x9.2 == x10.2)) [] rfl
    ·refine .g 6 rfl<|.jw (h10 false) [] rfl
   ·refine .g 9 rfl<|.jw (h10 false) [] rfl
end Go.Proofs.YtjfcghliglfapaaGreat.Gen
