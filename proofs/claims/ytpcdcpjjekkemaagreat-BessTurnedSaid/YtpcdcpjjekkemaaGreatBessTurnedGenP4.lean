/- Printed by geng.py: a call does what the plain function says. -/
import Derived.Test.YtpcdcpjjekkemaaGreatBessTurnedGenP3
set_option linter.unusedVariables false
set_option linter.unusedSimpArgs false
set_option maxRecDepth 4000
namespace Go.Proofs.YtpcdcpjjekkemaaGreat.Gen
open Go Go.Abs Go.Proofs Go.Proofs.Tryz
instance l13_BessTurned_i (a0:Int) (a1:AD) (a2:Int):PC (l13_BessTurned a0 a1 a2) Tryz.prog 5 [(.int .i64 a0),(.agg (kApiDy.enc a1)),(.int .i64 a2)] (fun r=>(.bool r)):=pc func5 (by kernel_rfl) rfl fun E=>by
 unfold l13_BessTurned
 refine .g 8 rfl<|.p0 rfl rfl fun x32 _=>.g 10 rfl<|?_
 refine .cd rfl (fun _ _=>?_) fun _ _=>?_
 ·refine .g 7 rfl<|.fi rfl rfl
 ·refine .g 5 rfl<|.p0 rfl rfl fun x33 _=>.g 6 rfl<|.bind fun x34 h5=>?_
  rcases x34 with x35 | x36
  ·dsimp only
   refine .st rfl (cl (iv_New_k_0 h5) [] [1] [true] rfl (.i<|.nil) .nil (fresh_cons rfl fnil) (.cons .dead .nil) (ren_tupL (.cons .nilptr<|.i<|.nil)) (.turned .nil) rfl) rfl<|.g 26 rfl<|.fi rfl rfl
  ·dsimp only
   refine .st rfl (cl (iv_New_k_1 h5) [] [1] [true] rfl (.i<|.nil) .nil (fresh_cons rfl fnil) (.cons (.v (.i<|.i<|.nil)) .nil) (ren_tupL (.p rfl<|.i<|.nil)) (.turned .nil) rfl) rfl<|.g 18 rfl<|?_
   refine .cd rfl (fun _ _=>?_) fun _ _=>?_
   ·refine .g 7 rfl<|.fi rfl rfl
   ·refine .g 9 rfl<|?_
    refine .cut (fun x:Int=>(l13_BessTurned_j1 a1 x33 x36 x32 x,[eI 0 x,eI 2 x33,eP 4 0,eB 7 x32,eP 8 1],[(0,(.live 26 [(.bool a1.M.Neg),(slK (kInt .u32) a1.M.Mag),(.int .i64 a1.E)])),(1,(.live 45 [(.int .i64 x36.2.1),(.int .i64 x36.2.2)]))])) ?_ ?_
    ·rintro y37
     dsimp only [l13_BessTurned_j1]
     refine .g 11 rfl<|.p0 rfl rfl fun x38 _=>.g 9 rfl<|.p0 rfl rfl fun x39 _=>.g 12 rfl<|.p0 rfl rfl fun x40 _=>.g 1 rfl<|.p0 rfl rfl fun x41 _=>.g 16 rfl<|?_
     refine .cut (fun x:Int × Bool × (List Int) × Int × Bool × (List Int) × Int=>(l13_BessTurned_j2 x39 x36 x32 x41 x33 x.1 x.2.1 x.2.2.1 x.2.2.2.1 x.2.2.2.2.1 x.2.2.2.2.2.1 x.2.2.2.2.2.2,[eI 2 x33,eB 7 x32,eP 8 1,eP 11 3,eI 12 x39.2,eP 13 4,eI 14 x41.2],[(1,(.live 45 [(.int .i64 x.1),(.int .i64 x36.2.2)])),(3,(.live 35 [(.bool ((((x39.1).Lo).M).Neg)),(slK (kInt .u32) ((((x39.1).Lo).M).Mag)),(.int .i64 (((x39.1).Lo).E)),(.bool ((((x39.1).Hi).M).Neg)),(slK (kInt .u32) ((((x39.1).Hi).M).Mag)),(.int .i64 (((x39.1).Hi).E))])),(4,(.live 35 [(.bool x.2.1),(slK (kInt .u32) x.2.2.1),(.int .i64 x.2.2.2.1),(.bool x.2.2.2.2.1),(slK (kInt .u32) x.2.2.2.2.2.1),(.int .i64 x.2.2.2.2.2.2)]))])) ?_ ?_
     ·rintro ⟨y43,y44,y45,y46,y47,y48,y49⟩
      dsimp only [l13_BessTurned_j2]
      refine .g 5 rfl<|.p0 rfl rfl fun x50 _=>.g 7 rfl<|.p0 rfl rfl fun x51 _=>.p0 rfl rfl fun x52 _=>.g 1 rfl<|.bind fun x53 h20=>.st rfl (cl (CC.h h20) [1] [] [true] rfl (.p rfl<|.a kI<|.a kI<|.nil) (.p rfl (.i<|.i<|.nil) .nil) fnil (.cons (.v (.i<|.i<|.nil)) .nil) (ren_agg (K:=kI) _) (.turned .nil) rfl) rfl<|.dn (by kernel_rfl)<|.g 7 rfl<|.p0 rfl rfl fun x54 _=>.g 9 rfl<|?_
      refine .cut (fun x:Bool=>(l13_BessTurned_j3 x,[eB 6 x],[])) ?_ ?_
      ·rintro y58
       dsimp only [l13_BessTurned_j3]
       refine .g 2 rfl<|.fi rfl rfl
      ·intro h31
       refine .g 3 rfl<|?_
       refine .gd 82 rfl (fun _=>?_) fun _=>?_
       ·refine .g 4 rfl<|?_
        refine .gd 86 rfl (fun _=>?_) fun _=>?_
        ·refine .g 4 rfl<|?_
         refine .gd 90 rfl (fun _=>?_) fun _=>?_
         ·refine .g 4 rfl<|?_
          refine .gd 94 rfl (fun _=>?_) fun _=>?_
          ·refine .g 3 rfl<|?_
           refine .gd 97 rfl (fun _=>?_) fun _=>?_
           ·refine .g 3 rfl<|.bind fun x59 h37=>.st rfl (cl (CC.h h37) [1] [] [false] rfl (.p rfl<|.nil) (.p rfl (.i<|.i<|.nil) .nil) fnil (.cons (.v (.i<|.i<|.nil)) .nil) (.int _ _) (.kept rfl .nil) rfl) rfl<|.g 3 rfl<|?_
            refine .gd 104 rfl (fun _=>?_) fun _=>?_
            ·refine .g 3 rfl<|.p0 rfl rfl fun x60 _=>.p0 rfl rfl fun x61 _=>.g 3 rfl<|.dn (by kernel_rfl)<|.jw (h31 (decide (x61≤0))) [] rfl
            ·refine .g 8 rfl<|.dn (by kernel_rfl)<|.jw (h31 false) [] rfl
           ·refine .g 15 rfl<|.dn (by kernel_rfl)<|.jw (h31 false) [] rfl
          ·refine .g 18 rfl<|.dn (by kernel_rfl)<|.jw (h31 false) [] rfl
         ·refine .g 22 rfl<|.dn (by kernel_rfl)<|.jw (h31 false) [] rfl
        ·refine .g 26 rfl<|.dn (by kernel_rfl)<|.jw (h31 false) [] rfl
       ·refine .g 30 rfl<|.dn (by kernel_rfl)<|.jw (h31 false) [] rfl
     ·intro h41
      refine .cd rfl (fun _ _=>?_) fun _ _=>?_
      ·refine .g 3 rfl<|.bind fun x62 h44=>.st rfl (cl (CC.h h44) [1] [] [true] rfl (.p rfl<|.a kI<|.nil) (.p rfl (.i<|.i<|.nil) .nil) fnil (.cons (.v (.i<|.i<|.nil)) .nil) (ren_agg (K:=kI) _) (.turned .nil) rfl) rfl<|.g 2 rfl<|.jw (h41 (x62.2,(((x62.1).Lo).M).Neg,(((x62.1).Lo).M).Mag,((x62.1).Lo).E,(((x62.1).Hi).M).Neg,(((x62.1).Hi).M).Mag,((x62.1).Hi).E)) [(1,1),(3,3),(4,4)] rfl
      ·refine .g 1 rfl<|.jw (h41 (x36.2.1,(((x41.1).Lo).M).Neg,(((x41.1).Lo).M).Mag,((x41.1).Lo).E,(((x41.1).Hi).M).Neg,(((x41.1).Hi).M).Mag,((x41.1).Hi).E)) [(1,1),(3,3),(4,4)] rfl
    ·intro h45
     refine .cd rfl (fun _ _=>?_) fun _ _=>?_
     ·refine .g 6 rfl<|.jw (h45 (IntKind.i64.wrap (0-(IntKind.i64.wrap (a0+1))))) [(0,0),(1,1)] rfl
     ·refine .g 1 rfl<|.jw (h45 a0) [(0,0),(1,1)] rfl
end Go.Proofs.YtpcdcpjjekkemaaGreat.Gen
