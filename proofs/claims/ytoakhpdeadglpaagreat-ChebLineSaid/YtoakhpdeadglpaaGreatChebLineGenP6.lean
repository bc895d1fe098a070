/- Printed by geng.py: a call does what the plain function says. -/
import Derived.Test.YtoakhpdeadglpaaGreatChebLineGenP5
set_option linter.unusedVariables false
set_option linter.unusedSimpArgs false
set_option maxRecDepth 4000
set_option synthInstance.maxSize 4000
set_option synthInstance.maxHeartbeats 400000
namespace Go.Proofs.YtoakhpdeadglpaaGreat.Gen
open Go Go.Abs Go.Proofs Go.Proofs.Tryz
instance cheb_Value_i (a0:ApiPiece) (a1:AD):PC (cheb_Value a0 a1) Tryz.prog 51 [(.agg (kApiPiece.enc a0)),(.agg (kD.enc a1))] (fun r=>(.tup [(.agg (kI.enc (⟨⟨(((r.1).Lo).M),((r.1).Lo).E⟩,⟨(((r.1).Hi).M),((r.1).Hi).E⟩⟩:AI))),(.int .i64 r.2)])):=pc func51 (by kernel_rfl) rfl fun E=>by
 unfold cheb_Value
 refine .g 10 rfl<|?_
 refine .cut (fun x:Bool=>(cheb_Value_j1 a0 a1 x,[eP 2 0,eP 3 1,eP 4 2,eB 24 x],[(0,(.live 69 [(.bool a0.A.M.Neg),(slK (kInt .u32) a0.A.M.Mag),(.int .i64 a0.A.E),(.int .i64 a0.W),(slK kD a0.C),(.bool a0.Err.M.Neg),(slK (kInt .u32) a0.Err.M.Mag),(.int .i64 a0.Err.E)])),(1,(.live 26 [(.bool a1.M.Neg),(slK (kInt .u32) a1.M.Mag),(.int .i64 a1.E)])),(2,(.live 30 [(.bool false),(slK (kInt .u32) []),(.int .i64 0),(.bool false),(slK (kInt .u32) []),(.int .i64 0)]))])) ?_ ?_
 ·rintro y116
  dsimp only [cheb_Value_j1]
  refine .g 1 rfl<|?_
  refine .cd rfl (fun _ _=>?_) fun _ _=>?_
  ·refine .g 9 rfl<|.fi rfl rfl
  ·refine .g 16 rfl<|.p0 rfl rfl fun x117 _=>.g 2 rfl<|.bind fun x118 h7=>.st rfl (cl (CC.h h7) [3] [] [true] rfl (.p rfl<|.a kD<|.i<|.nil) (.p rfl (.i<|.nil) .nil) fnil (.cons (.v (.i<|.nil)) .nil) (ren_agg (K:=kD) _) (.turned .nil) rfl) rfl<|.g 14 rfl<|?_
   refine .cut (fun x:Int × Bool × (List Int) × Int=>(cheb_Value_j2 a0 x.1 x.2.1 x.2.2.1 x.2.2.2,[eP 2 0,eP 4 2,eP 6 3,eP 7 4],[(0,(.live 69 [(.bool a0.A.M.Neg),(slK (kInt .u32) a0.A.M.Mag),(.int .i64 a0.A.E),(.int .i64 a0.W),(slK kD a0.C),(.bool a0.Err.M.Neg),(slK (kInt .u32) a0.Err.M.Mag),(.int .i64 a0.Err.E)])),(2,(.live 30 [(.bool false),(slK (kInt .u32) []),(.int .i64 0),(.bool false),(slK (kInt .u32) []),(.int .i64 0)])),(3,(.live 180 [(.int .i64 x.1)])),(4,(.live 26 [(.bool x.2.1),(slK (kInt .u32) x.2.2.1),(.int .i64 x.2.2.2)]))])) ?_ ?_
   ·rintro ⟨y121,y122,y123,y124⟩
    dsimp only [cheb_Value_j2]
    refine .g 11 rfl<|?_
    refine .cut (fun x:Int × Bool × (List Int) × Int=>(cheb_Value_j3 a0 x.1 x.2.1 x.2.2.1 x.2.2.2,[eP 2 0,eP 4 2,eP 6 3,eP 7 4],[(0,(.live 69 [(.bool a0.A.M.Neg),(slK (kInt .u32) a0.A.M.Mag),(.int .i64 a0.A.E),(.int .i64 a0.W),(slK kD a0.C),(.bool a0.Err.M.Neg),(slK (kInt .u32) a0.Err.M.Mag),(.int .i64 a0.Err.E)])),(2,(.live 30 [(.bool false),(slK (kInt .u32) []),(.int .i64 0),(.bool false),(slK (kInt .u32) []),(.int .i64 0)])),(3,(.live 180 [(.int .i64 x.1)])),(4,(.live 26 [(.bool x.2.1),(slK (kInt .u32) x.2.2.1),(.int .i64 x.2.2.2)]))])) ?_ ?_
    ·rintro ⟨y127,y128,y129,y130⟩
     dsimp only [cheb_Value_j3]
     refine .g 11 rfl<|?_
     refine .cd rfl (fun _ _=>?_) fun _ _=>?_
     ·refine .g 9 rfl<|.dn (by kernel_rfl)<|.g 3 rfl<|.fi rfl rfl
     ·refine .g 4 rfl<|.bind fun x131 h18=>?_
      rcases x131 with x132 | x133
      ·dsimp only
       refine .st rfl (cl (iv_New_k_0 h18) [] [1] [true] rfl (.i<|.nil) .nil (fresh_cons rfl fnil) (.cons .dead .nil) (ren_tupL (.cons .nilptr<|.i<|.nil)) (.turned .nil) rfl) rfl<|.g 12 rfl<|.no
      ·dsimp only
       refine .st rfl (cl (iv_New_k_1 h18) [] [1] [true] rfl (.i<|.nil) .nil (fresh_cons rfl fnil) (.cons (.v (.i<|.i<|.nil)) .nil) (ren_tupL (.p rfl<|.i<|.nil)) (.turned .nil) rfl) rfl<|.g 12 rfl<|.bind fun x134 h19=>.st rfl (cl (CC.h h19) [1] [] [true] rfl (.p rfl<|.a kD<|.nil) (.p rfl (.i<|.i<|.nil) .nil) fnil (.cons (.v (.i<|.i<|.nil)) .nil) (ren_agg (K:=kI) _) (.turned .nil) rfl) rfl<|.g 8 rfl<|.bind fun x135 h20=>.st rfl (cl (CC.h h20) [1] [] [true] rfl (.p rfl<|.a kI<|.i<|.nil) (.p rfl (.i<|.i<|.nil) .nil) fnil (.cons (.v (.i<|.i<|.nil)) .nil) (ren_agg (K:=kI) _) (.turned .nil) rfl) rfl<|.g 7 rfl<|.bind fun x136 h21=>.st rfl (cl (CC.h h21) [1] [] [true] rfl (.p rfl<|.i<|.nil) (.p rfl (.i<|.i<|.nil) .nil) fnil (.cons (.v (.i<|.i<|.nil)) .nil) (ren_agg (K:=kI) _) (.turned .nil) rfl) rfl<|.g 1 rfl<|.bind fun x137 h22=>.st rfl (cl (CC.h h22) [1] [] [true] rfl (.p rfl<|.i<|.nil) (.p rfl (.i<|.i<|.nil) .nil) fnil (.cons (.v (.i<|.i<|.nil)) .nil) (ren_agg (K:=kI) _) (.turned .nil) rfl) rfl<|.g 4 rfl<|?_
       refine .dn (by kernel_rfl)<|.g 12 rfl<|.ln rfl rfl<|.g 4 rfl<|?_
       refine .cut (fun x:Int × Bool × (List Int) × Int × Bool × (List Int) × Int × Bool × (List Int) × Int × Bool × (List Int) × Int=>(cheb_Value_j4 x134 x133 a0 x.1 x.2.1 x.2.2.1 x.2.2.2.1 x.2.2.2.2.1 x.2.2.2.2.2.1 x.2.2.2.2.2.2.1 x.2.2.2.2.2.2.2.1 x.2.2.2.2.2.2.2.2.1 x.2.2.2.2.2.2.2.2.2.1 x.2.2.2.2.2.2.2.2.2.2.1 x.2.2.2.2.2.2.2.2.2.2.2.1 x.2.2.2.2.2.2.2.2.2.2.2.2,[eP 4 2,eP 8 5,eP 10 6,(14,some (.fn 137 [] [(.ptr 5 0),(.ptr 8 0),(.ptr 9 0),(.ptr 0 0)]))],[(2,(.live 30 [(.bool false),(slK (kInt .u32) []),(.int .i64 0),(.bool false),(slK (kInt .u32) []),(.int .i64 0)])),(5,(.live 45 [(.ptr 1 0)])),(1,(.live 53 [(.int .i64 x.1),(.int .i64 x133.2.2)])),(6,(.live 30 [(.bool ((((x134.1).Lo).M).Neg)),(slK (kInt .u32) ((((x134.1).Lo).M).Mag)),(.int .i64 (((x134.1).Lo).E)),(.bool ((((x134.1).Hi).M).Neg)),(slK (kInt .u32) ((((x134.1).Hi).M).Mag)),(.int .i64 (((x134.1).Hi).E))])),(8,(.live 30 [(.bool x.2.1),(slK (kInt .u32) x.2.2.1),(.int .i64 x.2.2.2.1),(.bool x.2.2.2.2.1),(slK (kInt .u32) x.2.2.2.2.2.1),(.int .i64 x.2.2.2.2.2.2.1)])),(9,(.live 30 [(.bool x.2.2.2.2.2.2.2.1),(slK (kInt .u32) x.2.2.2.2.2.2.2.2.1),(.int .i64 x.2.2.2.2.2.2.2.2.2.1),(.bool x.2.2.2.2.2.2.2.2.2.2.1),(slK (kInt .u32) x.2.2.2.2.2.2.2.2.2.2.2.1),(.int .i64 x.2.2.2.2.2.2.2.2.2.2.2.2)])),(0,(.live 69 [(.bool a0.A.M.Neg),(slK (kInt .u32) a0.A.M.Mag),(.int .i64 a0.A.E),(.int .i64 a0.W),(slK kD a0.C),(.bool a0.Err.M.Neg),(slK (kInt .u32) a0.Err.M.Mag),(.int .i64 a0.Err.E)]))])) ?_ ?_
       ·rintro ⟨y172,y173,y174,y175,y176,y177,y178,y179,y180,y181,y182,y183,y184⟩
        dsimp only [cheb_Value_j4]
        refine .g 5 rfl<|.bind fun x185 h35=>.st rfl (cl (CC.h h35) [5,1,8,9,0] [] [false,true,false,false,false] rfl (.a kI<|.i<|.p rfl<|.p rfl<|.p rfl<|.p rfl<|.nil) (.p rfl (.p rfl<|.nil) (.p rfl (.i<|.i<|.nil) (.p rfl (.b<|.l<|.i<|.b<|.l<|.i<|.nil) (.p rfl (.b<|.l<|.i<|.b<|.l<|.i<|.nil) (.p rfl (.b<|.l<|.i<|.i<|.l<|.b<|.l<|.i<|.nil) .nil))))) fnil (.cons (.v (.p rfl<|.nil)) (.cons (.v (.i<|.i<|.nil)) (.cons (.v (.b<|.l<|.i<|.b<|.l<|.i<|.nil)) (.cons (.v (.b<|.l<|.i<|.b<|.l<|.i<|.nil)) (.cons (.v (.b<|.l<|.i<|.i<|.l<|.b<|.l<|.i<|.nil)) .nil))))) (ren_agg (K:=kI) _) (.kept rfl (.turned (.kept rfl (.kept rfl (.kept rfl .nil))))) rfl) rfl<|.g 3 rfl<|.bind fun x186 h36=>.st rfl (cl (CC.h h36) [1] [] [false] rfl (.p rfl<|.nil) (.p rfl (.i<|.i<|.nil) .nil) fnil (.cons (.v (.i<|.i<|.nil)) .nil) (.int _ _) (.kept rfl .nil) rfl) rfl<|.g 2 rfl<|.dn (by kernel_rfl)<|.g 2 rfl<|.fi rfl rfl
       ·intro h37
        refine .g 1 rfl<|?_
        refine .lp (fun n (x:Int × Int × Bool × (List Int) × Int × Bool × (List Int) × Int × Bool × (List Int) × Int × Bool × (List Int) × Int)=>cheb_Value_l5 x135 x133 a0 x134 n x.1 x.2.1 x.2.2.1 x.2.2.2.1 x.2.2.2.2.1 x.2.2.2.2.2.1 x.2.2.2.2.2.2.1 x.2.2.2.2.2.2.2.1 x.2.2.2.2.2.2.2.2.1 x.2.2.2.2.2.2.2.2.2.1 x.2.2.2.2.2.2.2.2.2.2.1 x.2.2.2.2.2.2.2.2.2.2.2.1 x.2.2.2.2.2.2.2.2.2.2.2.2.1 x.2.2.2.2.2.2.2.2.2.2.2.2.2) (fun x=>([eP 4 2,eP 8 5,eP 10 6,eP 11 7,eP 12 8,eP 13 9,(14,some (.fn 137 [] [(.ptr 5 0),(.ptr 8 0),(.ptr 9 0),(.ptr 0 0)])),eI 15 x.1],[(2,(.live 30 [(.bool false),(slK (kInt .u32) []),(.int .i64 0),(.bool false),(slK (kInt .u32) []),(.int .i64 0)])),(5,(.live 45 [(.ptr 1 0)])),(1,(.live 53 [(.int .i64 x.2.1),(.int .i64 x133.2.2)])),(6,(.live 30 [(.bool ((((x134.1).Lo).M).Neg)),(slK (kInt .u32) ((((x134.1).Lo).M).Mag)),(.int .i64 (((x134.1).Lo).E)),(.bool ((((x134.1).Hi).M).Neg)),(slK (kInt .u32) ((((x134.1).Hi).M).Mag)),(.int .i64 (((x134.1).Hi).E))])),(7,(.live 30 [(.bool ((((x135.1).Lo).M).Neg)),(slK (kInt .u32) ((((x135.1).Lo).M).Mag)),(.int .i64 (((x135.1).Lo).E)),(.bool ((((x135.1).Hi).M).Neg)),(slK (kInt .u32) ((((x135.1).Hi).M).Mag)),(.int .i64 (((x135.1).Hi).E))])),(8,(.live 30 [(.bool x.2.2.1),(slK (kInt .u32) x.2.2.2.1),(.int .i64 x.2.2.2.2.1),(.bool x.2.2.2.2.2.1),(slK (kInt .u32) x.2.2.2.2.2.2.1),(.int .i64 x.2.2.2.2.2.2.2.1)])),(9,(.live 30 [(.bool x.2.2.2.2.2.2.2.2.1),(slK (kInt .u32) x.2.2.2.2.2.2.2.2.2.1),(.int .i64 x.2.2.2.2.2.2.2.2.2.2.1),(.bool x.2.2.2.2.2.2.2.2.2.2.2.1),(slK (kInt .u32) x.2.2.2.2.2.2.2.2.2.2.2.2.1),(.int .i64 x.2.2.2.2.2.2.2.2.2.2.2.2.2)])),(0,(.live 69 [(.bool a0.A.M.Neg),(slK (kInt .u32) a0.A.M.Mag),(.int .i64 a0.A.E),(.int .i64 a0.W),(slK kD a0.C),(.bool a0.Err.M.Neg),(slK (kInt .u32) a0.Err.M.Mag),(.int .i64 a0.Err.E)]))])) ((IntKind.i64.wrap ((a0.C.length:Int)-1)),x137.2,(((x136.1).Lo).M).Neg,(((x136.1).Lo).M).Mag,((x136.1).Lo).E,(((x136.1).Hi).M).Neg,(((x136.1).Hi).M).Mag,((x136.1).Hi).E,(((x137.1).Lo).M).Neg,(((x137.1).Lo).M).Mag,((x137.1).Lo).E,(((x137.1).Hi).M).Neg,(((x137.1).Hi).M).Mag,((x137.1).Hi).E) [(2,2),(5,5),(1,1),(6,6),(7,7),(8,8),(9,9),(0,0)] rfl ?_
        rintro n5 ⟨y205,y206,y207,y208,y209,y210,y211,y212,y213,y214,y215,y216,y217,y218⟩
        try dsimp only
        rw [cheb_Value_l5]
        refine .g 7 rfl<|?_
        refine .cd rfl (fun _ _=>?_) fun _ _=>?_
        ·refine .g 8 rfl<|.bind fun x220 h49=>.st rfl (cl (CC.h h49) [5,1,8,9,0] [] [false,true,false,false,false] rfl (.a kI<|.i<|.p rfl<|.p rfl<|.p rfl<|.p rfl<|.nil) (.p rfl (.p rfl<|.nil) (.p rfl (.i<|.i<|.nil) (.p rfl (.b<|.l<|.i<|.b<|.l<|.i<|.nil) (.p rfl (.b<|.l<|.i<|.b<|.l<|.i<|.nil) (.p rfl (.b<|.l<|.i<|.i<|.l<|.b<|.l<|.i<|.nil) .nil))))) fnil (.cons (.v (.p rfl<|.nil)) (.cons (.v (.i<|.i<|.nil)) (.cons (.v (.b<|.l<|.i<|.b<|.l<|.i<|.nil)) (.cons (.v (.b<|.l<|.i<|.b<|.l<|.i<|.nil)) (.cons (.v (.b<|.l<|.i<|.i<|.l<|.b<|.l<|.i<|.nil)) .nil))))) (ren_agg (K:=kI) _) (.kept rfl (.turned (.kept rfl (.kept rfl (.kept rfl .nil))))) rfl) rfl<|.g 3 rfl<|.dn (by kernel_rfl)<|.g 7 rfl<|.ag ((IntKind.i64.wrap (y205-1)),x220.2,(((x220.1).Lo).M).Neg,(((x220.1).Lo).M).Mag,((x220.1).Lo).E,(((x220.1).Hi).M).Neg,(((x220.1).Hi).M).Mag,((x220.1).Hi).E,y207,y208,y209,y210,y211,y212) [(2,2),(5,5),(1,1),(6,6),(7,7),(8,8),(9,9),(0,0)] rfl
        ·refine .g 4 rfl<|.jw (h37 (y206,y207,y208,y209,y210,y211,y212,y213,y214,y215,y216,y217,y218)) [(2,2),(5,5),(1,1),(6,6),(8,8),(9,9),(0,0)] rfl
    ·intro h50
     refine .cd rfl (fun _ _=>?_) fun _ _=>?_
     ·refine .g 6 rfl<|.p0 rfl rfl fun x221 _=>.g 2 rfl<|.bind fun x222 h54=>.st rfl (cl (CC.h h54) [3] [] [true] rfl (.p rfl<|.a kD<|.i<|.nil) (.p rfl (.i<|.nil) .nil) fnil (.cons (.v (.i<|.nil)) .nil) (ren_agg (K:=kD) _) (.turned .nil) rfl) rfl<|.g 2 rfl<|.jw (h50 (x222.2,((x222.1).M).Neg,((x222.1).M).Mag,(x222.1).E)) [(0,0),(2,2),(3,3),(4,4)] rfl
     ·refine .g 1 rfl<|.jw (h50 (y121,y122,y123,y124)) [(0,0),(2,2),(3,3),(4,4)] rfl
   ·intro h55
    refine .cd rfl (fun _ _=>?_) fun _ _=>?_
    ·refine .g 4 rfl<|.p0 rfl rfl fun x223 _=>.g 2 rfl<|.bind fun x224 h59=>.st rfl (cl (CC.h h59) [3] [] [true] rfl (.p rfl<|.a kD<|.i<|.nil) (.p rfl (.i<|.nil) .nil) fnil (.cons (.v (.i<|.nil)) .nil) (ren_agg (K:=kD) _) (.turned .nil) rfl) rfl<|.g 2 rfl<|.jw (h55 (x224.2,((x224.1).M).Neg,((x224.1).M).Mag,(x224.1).E)) [(0,0),(2,2),(3,3),(4,4)] rfl
    ·refine .g 1 rfl<|.jw (h55 (x118.2,((x118.1).M).Neg,((x118.1).M).Mag,(x118.1).E)) [(0,0),(2,2),(3,3),(4,4)] rfl
 ·intro h60
  refine .g 2 rfl<|.st rfl (bs kD [a1] rfl rfl) rfl<|.p0 rfl rfl fun x225 _=>.g 2 rfl<|?_
  refine .gd 20 rfl (fun _=>?_) fun _=>?_
  ·refine .g 5 rfl<|.jw (h60 true) [(0,0),(1,1),(2,2)] rfl
  ·refine .g 1 rfl<|.p0 rfl rfl fun x226 _=>.g 3 rfl<|.jw (h60 (!x226)) [(0,0),(1,1),(2,2)] rfl
instance r04_Same_i (a0:ApiInt) (a1:ApiInt):PC (r04_Same a0 a1) Tryz.prog 210 [(.agg (kN.enc a0)),(.agg (kN.enc a1))] (fun r=>(.bool r)):=pc func210 (by kernel_rfl) rfl fun E=>by
 unfold r04_Same
 refine .g 9 rfl<|?_
 refine .cut (fun x:Bool=>(r04_Same_j1 a0 a1 x,[eP 2 0,eP 3 1,eB 19 x],[(0,(.live 24 [(.bool a0.Neg),(slK (kInt .u32) a0.Mag)])),(1,(.live 24 [(.bool a1.Neg),(slK (kInt .u32) a1.Mag)]))])) ?_ ?_
 ·rintro y6
  dsimp only [r04_Same_j1]
  refine .g 1 rfl<|?_
  refine .cd rfl (fun _ _=>?_) fun _ _=>?_
  ·refine .g 7 rfl<|.fi rfl rfl
  ·refine .g 8 rfl<|?_
   refine .cut (fun x:Unit=>(r04_Same_j2,[],[])) ?_ ?_
   ·rintro _
    dsimp only [r04_Same_j2]
    refine .g 7 rfl<|.fi rfl rfl
   ·intro h34
    refine .g 1 rfl<|?_
    refine .lp (fun n (x:Int)=>r04_Same_l3 a0 a1 n x) (fun x=>([eP 2 0,eP 3 1,eI 5 x],[(0,(.live 24 [(.bool a0.Neg),(slK (kInt .u32) a0.Mag)])),(1,(.live 24 [(.bool a1.Neg),(slK (kInt .u32) a1.Mag)]))])) 0 [(0,0),(1,1)] rfl ?_
    rintro n3 y10
    try dsimp only
    rw [r04_Same_l3]
    refine .g 6 rfl<|.ln rfl rfl<|.g 3 rfl<|?_
    refine .cd rfl (fun _ _=>?_) fun _ _=>?_
    ·refine .g 9 rfl<|.ix rfl rfl<|.g 4 rfl<|.ix rfl rfl<|.g 2 rfl<|.dn (by kernel_rfl)<|.g 1 rfl<|?_
     refine .cd rfl (fun _ _=>?_) fun _ _=>?_
     ·refine .g 11 rfl<|.fi rfl rfl
     ·refine .g 8 rfl<|.ag (IntKind.i64.wrap (y10+1)) [(0,0),(1,1)] rfl
    ·refine .g 4 rfl<|.jw (h34 ()) [] rfl
 ·intro h65
  refine .g 7 rfl<|?_
  refine .gd 11 rfl (fun _=>?_) fun _=>?_
  ·refine .g 9 rfl<|.jw (h65 true) [(0,0),(1,1)] rfl
  ·refine .g 2 rfl<|.ln rfl rfl<|.g 2 rfl<|.ln rfl rfl<|.g 3 rfl<|.jw (h65 ((a0.Mag.length:Int) != (a1.Mag.length:Int))) [(0,0),(1,1)] rfl
instance r05_Same_i (a0:AD) (a1:AD):PC (r05_Same a0 a1) Tryz.prog 109 [(.agg (kD.enc a0)),(.agg (kD.enc a1))] (fun r=>(.bool r)):=pc func109 (by kernel_rfl) rfl fun E=>by
 unfold r05_Same
 refine .g 8 rfl<|?_
 refine .cut (fun x:Bool=>(r05_Same_j1 x,[eB 4 x],[])) ?_ ?_
 ·rintro y5
  dsimp only [r05_Same_j1]
  refine .g 2 rfl<|.fi rfl rfl
 ·intro h3
  refine .g 7 rfl<|?_
  refine .gd 10 rfl (fun _=>?_) fun _=>?_
  ·refine .g 4 rfl<|.p0 rfl rfl fun x6 _=>.g 3 rfl<|.jw (h3 x6) [] rfl
  ·refine .g 8 rfl<|.jw (h3 false) [] rfl
instance l15_dy_i (a0:AD) (a1:AD):PC (l15_dy a0 a1) Tryz.prog 39 [(.agg (kD.enc a0)),(.agg (kD.enc a1))] (fun r=>(.bool r)):=pc func39 (by kernel_rfl) rfl fun E=>by
 unfold l15_dy
 refine .g 11 rfl<|.p0 rfl rfl fun x2 _=>.g 4 rfl<|.fi rfl rfl
instance l15_ChebLine_i (a0:AD) (a1:AD) (a2:AD) (a3:Int):PC (l15_ChebLine a0 a1 a2 a3) Tryz.prog 10 [(.agg (kD.enc a0)),(.agg (kD.enc a1)),(.agg (kD.enc a2)),(.int .i64 a3)] (fun r=>(.bool r)):=pc func10 (by kernel_rfl) rfl fun E=>by
 unfold l15_ChebLine
 refine .g 10 rfl<|.p0 rfl rfl fun x61 _=>.g 10 rfl<|?_
 refine .cd rfl (fun _ _=>?_) fun _ _=>?_
 ·refine .g 7 rfl<|.fi rfl rfl
 ·refine .g 9 rfl<|?_
  refine .cut (fun x:Int=>(l15_ChebLine_j1 x61 a0 a1 a2 x,[eI 3 x,eP 4 0,eP 5 1,eP 6 2,eB 9 x61],[(0,(.live 26 [(.bool a0.M.Neg),(slK (kInt .u32) a0.M.Mag),(.int .i64 a0.E)])),(1,(.live 26 [(.bool a1.M.Neg),(slK (kInt .u32) a1.M.Mag),(.int .i64 a1.E)])),(2,(.live 26 [(.bool a2.M.Neg),(slK (kInt .u32) a2.M.Mag),(.int .i64 a2.E)]))])) ?_ ?_
  ·rintro y62
   dsimp only [l15_ChebLine_j1]
   refine .g 14 rfl<|.sv (.row 3 kD.sz 0 (([a0,a1,a2]).length)) [(3,(rwK kD 26 [a0,a1,a2]))] rfl (snd_buildSliceK_row kD _ _ 3 3 _ _ [(0,(.agg (kD.enc a0))),(1,(.agg (kD.enc a1))),(2,(.agg (kD.enc a2)))] [a0,a1,a2] rfl underlying67 ze26 si26 rfl rfl rfl rfl (by decide) (by decide) (by decide) rfl rfl rfl) rfl<|.g 9 rfl<|?_
   refine .cut (fun x:(List AD)=>(l15_ChebLine_j2 y62 x61 x,[eI 3 (IntKind.i64.wrap ((y62.tmod 41)-20)),eB 9 x61,(10,some (.row 3 kD.sz 0 ((x).length)))],[(3,(rwK kD 26 x))])) ?_ ?_
   ·rintro y79
    dsimp only [l15_ChebLine_j2]
    refine .g 4 rfl<|.guard fun h52=>?_
    obtain ⟨h521,h522⟩:=h52
    refine .sv (.rptr 3 kD.sz 0 0) [] rfl (idx_r (snd_index_r _ _ _ _ _ 3 0 ((y79).length) _ 0 rfl underlying67 si26 rfl rfl rfl rfl h521 (by omega)) (Nat.zero_add _)) rfl<|.sv (.agg (kD.enc (⟨(((y79).getD 0 zAD).M),((y79).getD 0 zAD).E⟩:AD))) [] rfl (snd_loadK_agg kD _ _ 3 0 0 3 _ _ rfl ag26 rfl rfl rfl rfl (by first | omega | (simp only [List.length_set]; omega)) (by decide)) rfl<|.g 2 rfl<|.guard fun h53=>?_
    obtain ⟨h531,h532⟩:=h53
    refine .sv (.rptr 3 kD.sz 1 0) [] rfl (idx_r (snd_index_r _ _ _ _ _ 3 0 ((y79).length) _ 1 rfl underlying67 si26 rfl rfl rfl rfl h531 (by omega)) (Nat.zero_add _)) rfl<|.sv (.agg (kD.enc (⟨(((y79).getD 1 zAD).M),((y79).getD 1 zAD).E⟩:AD))) [] rfl (snd_loadK_agg kD _ _ 3 1 0 3 _ _ rfl ag26 rfl rfl rfl rfl (by first | omega | (simp only [List.length_set]; omega)) (by decide)) rfl<|.g 1 rfl<|.guard fun h54=>?_
    obtain ⟨h541,h542⟩:=h54
    refine .sv (.rptr 3 kD.sz 2 0) [] rfl (idx_r (snd_index_r _ _ _ _ _ 3 0 ((y79).length) _ 2 rfl underlying67 si26 rfl rfl rfl rfl h541 (by omega)) (Nat.zero_add _)) rfl<|.sv (.agg (kD.enc (⟨(((y79).getD 2 zAD).M),((y79).getD 2 zAD).E⟩:AD))) [] rfl (snd_loadK_agg kD _ _ 3 2 0 3 _ _ rfl ag26 rfl rfl rfl rfl (by first | omega | (simp only [List.length_set]; omega)) (by decide)) rfl<|.st rfl (bs kD [(⟨(((y79).getD 1 zAD).M),((y79).getD 1 zAD).E⟩:AD),(⟨(((y79).getD 2 zAD).M),((y79).getD 2 zAD).E⟩:AD)] rfl rfl) rfl<|.g 3 rfl<|.dn (by kernel_rfl)<|.g 6 rfl<|.p0 rfl rfl fun x80 _=>.p0 rfl rfl fun x81 _=>.g 6 rfl<|.dn (by kernel_rfl)<|.g 7 rfl<|.p0 rfl rfl fun x82 _=>.p0 rfl rfl fun x83 _=>.g 6 rfl<|?_
    refine .dn (by kernel_rfl)<|.g 6 rfl<|.p0 rfl rfl fun x84 _=>.g 12 rfl<|.p0 rfl rfl fun x85 _=>.g 12 rfl<|.p0 rfl rfl fun x86 _=>.g 11 rfl<|.guard fun h62=>?_
    obtain ⟨h621,h622⟩:=h62
    refine .sv (.rptr 3 kD.sz 1 0) [] rfl (idx_r (snd_index_r _ _ _ _ _ 3 0 ((y79).length) _ 1 rfl underlying67 si26 rfl rfl rfl rfl h621 (by omega)) (Nat.zero_add _)) rfl<|.sv (.agg (kD.enc (⟨(((y79).getD 1 zAD).M),((y79).getD 1 zAD).E⟩:AD))) [] rfl (snd_loadK_agg kD _ _ 3 1 0 3 _ _ rfl ag26 rfl rfl rfl rfl (by first | omega | (simp only [List.length_set]; omega)) (by decide)) rfl<|.g 1 rfl<|.guard fun h63=>?_
    obtain ⟨h631,h632⟩:=h63
    refine .sv (.rptr 3 kD.sz 2 0) [] rfl (idx_r (snd_index_r _ _ _ _ _ 3 0 ((y79).length) _ 2 rfl underlying67 si26 rfl rfl rfl rfl h631 (by omega)) (Nat.zero_add _)) rfl<|.sv (.agg (kD.enc (⟨(((y79).getD 2 zAD).M),((y79).getD 2 zAD).E⟩:AD))) [] rfl (snd_loadK_agg kD _ _ 3 2 0 3 _ _ rfl ag26 rfl rfl rfl rfl (by first | omega | (simp only [List.length_set]; omega)) (by decide)) rfl<|.p0 rfl rfl fun x87 _=>.g 6 rfl<|.dn (by kernel_rfl)<|.g 4 rfl<|.guard fun h65=>?_
    obtain ⟨h651,h652⟩:=h65
    refine .sv (.rptr 3 kD.sz 1 0) [] rfl (idx_r (snd_index_r _ _ _ _ _ 3 0 ((y79).length) _ 1 rfl underlying67 si26 rfl rfl rfl rfl h651 (by omega)) (Nat.zero_add _)) rfl<|.sv (.agg (kD.enc (⟨(((y79).getD 1 zAD).M),((y79).getD 1 zAD).E⟩:AD))) [] rfl (snd_loadK_agg kD _ _ 3 1 0 3 _ _ rfl ag26 rfl rfl rfl rfl (by first | omega | (simp only [List.length_set]; omega)) (by decide)) rfl<|.g 1 rfl<|.guard fun h66=>?_
    obtain ⟨h661,h662⟩:=h66
    refine .sv (.rptr 3 kD.sz 2 0) [] rfl (idx_r (snd_index_r _ _ _ _ _ 3 0 ((y79).length) _ 2 rfl underlying67 si26 rfl rfl rfl rfl h661 (by omega)) (Nat.zero_add _)) rfl<|.sv (.agg (kD.enc (⟨(((y79).getD 2 zAD).M),((y79).getD 2 zAD).E⟩:AD))) [] rfl (snd_loadK_agg kD _ _ 3 2 0 3 _ _ rfl ag26 rfl rfl rfl rfl (by first | omega | (simp only [List.length_set]; omega)) (by decide)) rfl<|.p0 rfl rfl fun x88 _=>.g 6 rfl<|.dn (by kernel_rfl)<|.g 2 rfl<|?_
    refine .cut (fun x:Bool=>(l15_ChebLine_j3 x85 x87 y79 x86 x61 x81 x83 x84 x88 x,[eB 9 x61,(10,some (.row 3 kD.sz 0 ((y79).length))),eI 14 x81.2,eI 16 x83.2,eI 18 x84.2,eP 19 5,eI 20 x85.2,eP 21 6,eI 22 x86.2,eP 23 7,eI 24 x87.2,eI 26 x88.2,eB 27 x],[(3,(rwK kD 26 y79)),(5,(.live 30 [(.bool ((((x85.1).Lo).M).Neg)),(slK (kInt .u32) ((((x85.1).Lo).M).Mag)),(.int .i64 (((x85.1).Lo).E)),(.bool ((((x85.1).Hi).M).Neg)),(slK (kInt .u32) ((((x85.1).Hi).M).Mag)),(.int .i64 (((x85.1).Hi).E))])),(6,(.live 30 [(.bool ((((x86.1).Lo).M).Neg)),(slK (kInt .u32) ((((x86.1).Lo).M).Mag)),(.int .i64 (((x86.1).Lo).E)),(.bool ((((x86.1).Hi).M).Neg)),(slK (kInt .u32) ((((x86.1).Hi).M).Mag)),(.int .i64 (((x86.1).Hi).E))])),(7,(.live 26 [(.bool (((x87.1).M).Neg)),(slK (kInt .u32) (((x87.1).M).Mag)),(.int .i64 ((x87.1).E))]))])) ?_ ?_
    ·rintro y91
     dsimp only [l15_ChebLine_j3]
     refine .g 2 rfl<|?_
     refine .cut (fun x:Bool=>(l15_ChebLine_j4 y79 x86 x61 x81 x83 x84 x85 x87 x88 y91 x,[eB 9 x61,(10,some (.row 3 kD.sz 0 ((y79).length))),eI 14 x81.2,eI 16 x83.2,eI 18 x84.2,eI 20 x85.2,eP 21 6,eI 22 x86.2,eI 24 x87.2,eI 26 x88.2,eB 27 y91,eB 28 x],[(3,(rwK kD 26 y79)),(6,(.live 30 [(.bool ((((x86.1).Lo).M).Neg)),(slK (kInt .u32) ((((x86.1).Lo).M).Mag)),(.int .i64 (((x86.1).Lo).E)),(.bool ((((x86.1).Hi).M).Neg)),(slK (kInt .u32) ((((x86.1).Hi).M).Mag)),(.int .i64 (((x86.1).Hi).E))]))])) ?_ ?_
     ·rintro y94
      dsimp only [l15_ChebLine_j4]
      refine .g 2 rfl<|?_
      refine .cut (fun x:Bool=>(l15_ChebLine_j5 x61 x81 x83 x84 x85 x86 x87 x88 y91 y94 x,[eB 9 x61,eI 14 x81.2,eI 16 x83.2,eI 18 x84.2,eI 20 x85.2,eI 22 x86.2,eI 24 x87.2,eI 26 x88.2,eB 27 y91,eB 28 y94,eB 29 x],[])) ?_ ?_
      ·rintro y97
       dsimp only [l15_ChebLine_j5]
       refine .g 2 rfl<|?_
       refine .cut (fun x:Bool=>(l15_ChebLine_j6 x,[eB 8 x],[])) ?_ ?_
       ·rintro y98
        dsimp only [l15_ChebLine_j6]
        refine .g 2 rfl<|.fi rfl rfl
       ·intro h89
        refine .g 3 rfl<|?_
        refine .gd 181 rfl (fun _=>?_) fun _=>?_
        ·refine .g 4 rfl<|?_
         refine .gd 185 rfl (fun _=>?_) fun _=>?_
         ·refine .g 4 rfl<|?_
          refine .gd 189 rfl (fun _=>?_) fun _=>?_
          ·refine .g 4 rfl<|?_
           refine .gd 193 rfl (fun _=>?_) fun _=>?_
           ·refine .g 4 rfl<|?_
            refine .gd 197 rfl (fun _=>?_) fun _=>?_
            ·refine .g 4 rfl<|?_
             refine .gd 201 rfl (fun _=>?_) fun _=>?_
             ·refine .g 4 rfl<|?_
              refine .gd 205 rfl (fun _=>?_) fun _=>?_
              ·refine .g 4 rfl<|?_
               refine .gd 209 rfl (fun _=>?_) fun _=>?_
               ·refine .g 3 rfl<|?_
                refine .gd 212 rfl (fun _=>?_) fun _=>?_
                ·refine .g 3 rfl<|?_
                 refine .gd 215 rfl (fun _=>?_) fun _=>?_
                 ·refine .g 4 rfl<|.jw (h89 y97) [] rfl
                 ·refine .g 4 rfl<|.jw (h89 false) [] rfl
                ·refine .g 7 rfl<|.jw (h89 false) [] rfl
               ·refine .g 10 rfl<|.jw (h89 false) [] rfl
              ·refine .g 14 rfl<|.jw (h89 false) [] rfl
             ·refine .g 18 rfl<|.jw (h89 false) [] rfl
            ·refine .g 22 rfl<|.jw (h89 false) [] rfl
           ·refine .g 26 rfl<|.jw (h89 false) [] rfl
          ·refine .g 30 rfl<|.jw (h89 false) [] rfl
         ·refine .g 34 rfl<|.jw (h89 false) [] rfl
        ·refine .g 38 rfl<|.jw (h89 false) [] rfl
      ·intro h100
       refine .g 4 rfl<|.guard fun h101=>?_
       obtain ⟨h1011,h1012⟩:=h101
       refine .sv (.rptr 3 kD.sz 1 0) [] rfl (idx_r (snd_index_r _ _ _ _ _ 3 0 ((y79).length) _ 1 rfl underlying67 si26 rfl rfl rfl rfl h1011 (by omega)) (Nat.zero_add _)) rfl<|.sv (.agg (kD.enc (⟨(((y79).getD 1 zAD).M),((y79).getD 1 zAD).E⟩:AD))) [] rfl (snd_loadK_agg kD _ _ 3 1 0 3 _ _ rfl ag26 rfl rfl rfl rfl (by first | omega | (simp only [List.length_set]; omega)) (by decide)) rfl<|.p0 rfl rfl fun x99 _=>.g 1 rfl<|?_
       refine .gd 172 rfl (fun _=>?_) fun _=>?_
       ·refine .g 3 rfl<|.guard fun h104=>?_
        obtain ⟨h1041,h1042⟩:=h104
        refine .sv (.rptr 3 kD.sz 1 0) [] rfl (idx_r (snd_index_r _ _ _ _ _ 3 0 ((y79).length) _ 1 rfl underlying67 si26 rfl rfl rfl rfl h1041 (by omega)) (Nat.zero_add _)) rfl<|.sv (.agg (kD.enc (⟨(((y79).getD 1 zAD).M),((y79).getD 1 zAD).E⟩:AD))) [] rfl (snd_loadK_agg kD _ _ 3 1 0 3 _ _ rfl ag26 rfl rfl rfl rfl (by first | omega | (simp only [List.length_set]; omega)) (by decide)) rfl<|.p0 rfl rfl fun x100 _=>.g 2 rfl<|.dn (by kernel_rfl)<|.jw (h100 x100) [] rfl
       ·refine .g 8 rfl<|.dn (by kernel_rfl)<|.jw (h100 false) [] rfl
     ·intro h106
      refine .g 4 rfl<|.p0 rfl rfl fun x101 _=>.g 1 rfl<|?_
      refine .gd 160 rfl (fun _=>?_) fun _=>?_
      ·refine .g 3 rfl<|.p0 rfl rfl fun x102 _=>.g 3 rfl<|.jw (h106 x102) [(3,3),(6,6)] rfl
      ·refine .g 7 rfl<|.jw (h106 false) [(3,3),(6,6)] rfl
    ·intro h110
     refine .g 4 rfl<|.p0 rfl rfl fun x103 _=>.g 1 rfl<|?_
     refine .gd 150 rfl (fun _=>?_) fun _=>?_
     ·refine .g 3 rfl<|.p0 rfl rfl fun x104 _=>.g 3 rfl<|.jw (h110 x104) [(3,3),(5,5),(6,6),(7,7)] rfl
     ·refine .g 7 rfl<|.jw (h110 false) [(3,3),(5,5),(6,6),(7,7)] rfl
   ·intro h114
    refine .g 1 rfl<|?_
    refine .lp (fun n (x:Int × (List AD))=>l15_ChebLine_l7 y62 x61 n x.1 x.2) (fun x=>([eI 3 (IntKind.i64.wrap ((y62.tmod 41)-20)),eB 9 x61,(10,some (.row 3 kD.sz 0 ((x.2).length))),eI 11 x.1],[(3,(rwK kD 26 x.2))])) (0,[a0,a1,a2]) [(3,3)] rfl ?_
    rintro n7 ⟨y115,y116⟩
    try dsimp only
    rw [l15_ChebLine_l7]
    refine .g 7 rfl<|?_
    refine .cd rfl (fun _ _=>?_) fun _ _=>?_
    ·refine .g 9 rfl<|.guard fun h154=>?_
     obtain ⟨h1541,h1542⟩:=h154
     refine .sv (.rptr 3 kD.sz y115.toNat 0) [] rfl (idx_r (snd_index_r _ _ _ _ _ 3 0 ((y116).length) _ y115 rfl underlying67 si26 rfl rfl rfl rfl h1541 (by omega)) (Nat.zero_add _)) rfl<|.sv (.rptr 3 kD.sz y115.toNat 0) [] rfl (snd_fieldAddr_r _ _ _ _ _ _ _ _ rfl fl26_0 rfl rfl rfl) rfl<|.sv (.rptr 3 kD.sz y115.toNat 0) [] rfl (snd_fieldAddr_r _ _ _ _ _ _ _ _ rfl fl24_0 rfl rfl rfl) rfl<|.sv (.bool ((((y116).getD y115.toNat zAD).M).Neg)) [] rfl (snd_loadK_sca kD _ _ 3 y115.toNat 0 _ _ rfl sc4 rfl rfl rfl rfl (by first | omega | (simp only [List.length_set]; omega)) (by decide)) rfl<|.g 2 rfl<|.guard fun h155=>?_
     obtain ⟨h1551,h1552⟩:=h155
     refine .sv (.rptr 3 kD.sz y115.toNat 0) [] rfl (idx_r (snd_index_r _ _ _ _ _ 3 0 ((y116).length) _ y115 rfl underlying67 si26 rfl rfl rfl rfl h1551 (by omega)) (Nat.zero_add _)) rfl<|.sv (.rptr 3 kD.sz y115.toNat 0) [] rfl (snd_fieldAddr_r _ _ _ _ _ _ _ _ rfl fl26_0 rfl rfl rfl) rfl<|.sv (.rptr 3 kD.sz y115.toNat 1) [] rfl (snd_fieldAddr_r _ _ _ _ _ _ _ _ rfl fl24_1 rfl rfl rfl) rfl<|.sv (slK (kInt .u32) ((((y116).getD y115.toNat zAD).M).Mag)) [] rfl (snd_loadK_sca kD _ _ 3 y115.toNat 1 _ _ rfl sc22 rfl rfl rfl rfl (by first | omega | (simp only [List.length_set]; omega)) (by decide)) rfl<|.g 2 rfl<|.guard fun h156=>?_
     obtain ⟨h1561,h1562⟩:=h156
     refine .sv (.rptr 3 kD.sz y115.toNat 0) [] rfl (idx_r (snd_index_r _ _ _ _ _ 3 0 ((y116).length) _ y115 rfl underlying67 si26 rfl rfl rfl rfl h1561 (by omega)) (Nat.zero_add _)) rfl<|.sv (.rptr 3 kD.sz y115.toNat 0) [] rfl (snd_fieldAddr_r _ _ _ _ _ _ _ _ rfl fl26_0 rfl rfl rfl) rfl<|.sv (.rptr 3 kD.sz y115.toNat 1) [] rfl (snd_fieldAddr_r _ _ _ _ _ _ _ _ rfl fl24_1 rfl rfl rfl) rfl<|.sv (slK (kInt .u32) ((((y116).getD y115.toNat zAD).M).Mag)) [] rfl (snd_loadK_sca kD _ _ 3 y115.toNat 1 _ _ rfl sc22 rfl rfl rfl rfl (by first | omega | (simp only [List.length_set]; omega)) (by decide)) rfl<|.ln rfl rfl<|.g 1 rfl<|.guard fun h157=>.sv (slK (kInt .u32) (((((y116).getD y115.toNat zAD).M).Mag).take ((mn (((((y116).getD y115.toNat zAD).M).Mag).length:Int) 1).toNat))) [] rfl (snd_sliceK (kInt .u32) _ _ _ _ _ _ 0 (mn (((((y116).getD y115.toNat zAD).M).Mag).length:Int) 1) rfl underlying22 si117 rfl rfl rfl rfl rfl h157) rfl<|.p0 rfl rfl fun x119 _=>.p0 rfl rfl fun x120 _=>.g 3 rfl<|.guard fun h160=>?_
     obtain ⟨h1601,h1602⟩:=h160
     refine .sv (.rptr 3 kD.sz y115.toNat 0) [] rfl (idx_r (snd_index_r _ _ _ _ _ 3 0 ((y116).length) _ y115 rfl underlying67 si26 rfl rfl rfl rfl h1601 (by omega)) (Nat.zero_add _)) rfl<|.sm [(3,(rwK kD 26 ((y116).set y115.toNat (⟨((x120.1).M),(x120.1).E⟩:AD))))] rfl (snd_storeK_agg kD _ _ _ 3 y115.toNat _ _ (⟨((x120.1).M),(x120.1).E⟩:AD) rfl rfl ag26 rfl rfl rfl rfl (by first | omega | (simp only [List.length_set]; omega))) rfl<|.dn (by kernel_rfl)<|?_
     refine .weak ?_ (fun a w h=>Conc.relen h 10 ((((y116).set y115.toNat (⟨((x120.1).M),(x120.1).E⟩:AD))).length) rfl List.length_set.symm)
     refine .g 7 rfl<|.ag ((IntKind.i64.wrap (y115+1)),((y116).set y115.toNat (⟨((x120.1).M),(x120.1).E⟩:AD))) [(3,3)] rfl
    ·refine .g 4 rfl<|.jw (h114 y116) [(3,3)] rfl
  ·intro h161
   refine .cd rfl (fun _ _=>?_) fun _ _=>?_
   ·refine .g 6 rfl<|.jw (h161 (IntKind.i64.wrap (0-(IntKind.i64.wrap (a3+1))))) [(0,0),(1,1),(2,2)] rfl
   ·refine .g 1 rfl<|.jw (h161 a3) [(0,0),(1,1),(2,2)] rfl
end Go.Proofs.YtoakhpdeadglpaaGreat.Gen
