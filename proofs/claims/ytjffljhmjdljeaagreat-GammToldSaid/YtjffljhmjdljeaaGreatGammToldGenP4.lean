/- Printed by geng.py: a call does what the plain function says. -/
import Derived.Test.YtjffljhmjdljeaaGreatGammToldGenP3
set_option linter.unusedVariables false
set_option linter.unusedSimpArgs false
set_option maxRecDepth 4000
set_option maxHeartbeats 1000000
set_option synthInstance.maxSize 4000
set_option synthInstance.maxHeartbeats 400000
namespace Go.Proofs.YtjffljhmjdljeaaGreat.Gen
open Go Go.Abs Go.Proofs Go.Proofs.Tryz
instance {a1 a0} : L14 (zfW a1 a0) fun ya yb yc yd ye yf yg yh yi yj yk yl ym yn=>([eP 0 0,eP 3 1,eP 4 2,eP 5 3,eP 6 4,eI 7 ya],[(0,(.live 171 [(.int .i64 a1),(.int .i64 yb)])),(1,(.live 37 [(.bool a0.Lo.M.Neg),(slK kU a0.Lo.M.Mag),(.int .i64 a0.Lo.E),(.bool a0.Hi.M.Neg),(slK kU a0.Hi.M.Mag),(.int .i64 a0.Hi.E)])),(2,(.live 37 [(.bool false),(slK kU []),(.int .i64 0),(.bool false),(slK kU []),(.int .i64 0)])),(3,(.live 37 [(.bool yc),(slK kU yd),(.int .i64 ye),(.bool yf),(slK kU yg),(.int .i64 yh)])),(4,(.live 37 [(.bool yi),(slK kU yj),(.int .i64 yk),(.bool yl),(slK kU ym),(.int .i64 yn)]))]):={}
instance zH0 (a0:AI) (a1:Int) (a2:Int):CC (zih a0 a1 a2) prog 222 [(.ptr 0 0),(.agg (kI.enc a0))] [(.live 171 [(.int .i64 a1),(.int .i64 a2)])] (fun r=>(.agg (kI.enc r.1))) (fun r=>[(.live 171 [(.int .i64 a1),(.int .i64 r.2)])]):=cc func222 (by kernel_rfl) rfl fun E=>by
 unfold zih
 exact wk
instance {y66 x69 a1} : L8 (zfX y66 x69 a1) fun ya yb yc yd ye yf yg yh=>([eI 1 a1,eP 4 1,eI 8 y66,eP 9 2,eP 10 3,eI 11 ya],[(1,(.live 37 [(.bool false),(slK kU []),(.int .i64 0),(.bool false),(slK kU []),(.int .i64 0)])),(2,(.live 171 [(.int .i64 x69.1),(.int .i64 yb)])),(3,(.live 37 [(.bool yc),(slK kU yd),(.int .i64 ye),(.bool yf),(slK kU yg),(.int .i64 yh)]))]):={}
instance zH1 (a0:AD) (a1:Int):PC (zfY a0 a1) prog 163 [(.agg (kD.enc a0)),(.int .i64 a1)] (fun r=>(.tup [(.agg (kI.enc r.1)),(.int .i64 r.2)])):=pc func163 (by kernel_rfl) rfl fun E=>by
 unfold zfY
 exact wk
instance zH2 (a0:AI) (a1:Int):PC (zfZ a0 a1) prog 116 [(.agg (kI.enc a0)),(.int .i64 a1)] (fun r=>(.tup [(.agg (kI.enc r.1)),(.int .i64 r.2)])):=pc func116 (by kernel_rfl) rfl fun E=>by
 unfold zfZ
 exact wk
instance zH3 (a0:AD) (a1:Int):PC (zaN a0 a1) prog 54 [(.agg (kD.enc a0)),(.int .i64 a1)] (fun r=>(.tup [(.agg (kI.enc r.1)),(.int .i64 r.2)])):=pc func54 (by kernel_rfl) rfl fun E=>by
 unfold zaN
 exact wk
instance zxR (a0:AD) (a1:Int) (a2:Int) (a3:Bool):PC (zla a0 a1 a2 a3) prog 7 [(.agg (kD.enc a0)),(.int .i64 a1),(.int .i64 a2),(.bool a3)] (fun r=>(.bool r)):=pc func7 (by kernel_rfl) rfl fun E=>by
 unfold zla
 refine .g 8 rfl<|.p0 rfl rfl fun x16 _=>.g 10 rfl<|?_
 refine .cd rfl (fun _ _=>?_) fun _ _=>?_
 ·refine .g 7 rfl<|.fi rfl rfl
 ·refine .g 5 rfl<|.p0 rfl rfl fun x17 _=>.g 6 rfl<|.p0 rfl rfl fun x18 _=>.g 10 rfl<|.p0 rfl rfl fun x19 _=>.g 10 rfl<|.p0 rfl rfl fun x20 _=>.g 12 rfl<|.p0 rfl rfl fun x21 _=>.g 11 rfl<|?_
  refine .cut (fun x:Bool=>(zbS a3 x17 a1 x16 x,[eI 1 a1,eB 3 a3,eP 4 0,eB 9 x16,eB 79 x],[(0,(.live 26 [(.bool x17.M.Neg),(slK kU x17.M.Mag),(.int .i64 x17.E)]))])) ?_ ?_
  ·rintro y22
   dsimp only [zbS]
   refine .g 1 rfl<|?_
   refine .cd rfl (fun _ _=>?_) fun _ _=>?_
   ·refine .g 7 rfl<|.fi rfl rfl
   ·refine .g 8 rfl<|?_
    refine .cd rfl (fun _ _=>?_) fun _ _=>?_
    ·refine .g 4 rfl<|.p0 rfl rfl fun x23 _=>.g 12 rfl<|.p0 rfl rfl fun x24 _=>.g 12 rfl<|.p0 rfl rfl fun x25 _=>.g 4 rfl<|?_
     refine .cut (fun x:Bool=>(zf0 x,[eB 8 x],[])) ?_ ?_
     ·rintro y26
      dsimp only [zf0]
      refine .g 3 rfl<|.fi rfl rfl
     ·intro h22
      refine .g 3 rfl<|?_
      refine .gd 97 rfl (fun _=>?_) fun _=>?_
      ·refine .g 3 rfl<|?_
       refine .gd 100 rfl (fun _=>?_) fun _=>?_
       ·refine .g 6 rfl<|.jw (h22 (x23.2 == x24.2)) [] rfl
       ·refine .g 6 rfl<|.jw (h22 false) [] rfl
      ·refine .g 9 rfl<|.jw (h22 false) [] rfl
    ·refine .g 6 rfl<|.p0 rfl rfl fun x27 _=>.g 12 rfl<|.p0 rfl rfl fun x28 _=>.g 12 rfl<|.p0 rfl rfl fun x29 _=>.g 4 rfl<|?_
     refine .cut (fun x:Bool=>(zf1 x,[eB 8 x],[])) ?_ ?_
     ·rintro y30
      dsimp only [zf1]
      refine .g 2 rfl<|.fi rfl rfl
     ·intro h30
      refine .g 3 rfl<|?_
      refine .gd 121 rfl (fun _=>?_) fun _=>?_
      ·refine .g 3 rfl<|?_
       refine .gd 124 rfl (fun _=>?_) fun _=>?_
       ·refine .g 6 rfl<|.jw (h30 (x27.2 == x28.2)) [] rfl
       ·refine .g 6 rfl<|.jw (h30 false) [] rfl
      ·refine .g 9 rfl<|.jw (h30 false) [] rfl
  ·intro h33
   refine .g 5 rfl<|?_
   refine .gd 60 rfl (fun _=>?_) fun _=>?_
   ·refine .g 20 rfl<|.jw (h33 true) [(0,0)] rfl
   ·refine .g 5 rfl<|?_
    refine .gd 65 rfl (fun _=>?_) fun _=>?_
    ·refine .g 15 rfl<|.jw (h33 true) [(0,0)] rfl
    ·refine .g 5 rfl<|?_
     refine .gd 70 rfl (fun _=>?_) fun _=>?_
     ·refine .g 10 rfl<|.jw (h33 true) [(0,0)] rfl
     ·refine .g 5 rfl<|?_
      refine .gd 75 rfl (fun _=>?_) fun _=>?_
      ·refine .g 5 rfl<|.jw (h33 true) [(0,0)] rfl
      ·refine .g 5 rfl<|.jw (h33 (x20.2.2 != x21.2.2)) [(0,0)] rfl
end Go.Proofs.YtjffljhmjdljeaaGreat.Gen
