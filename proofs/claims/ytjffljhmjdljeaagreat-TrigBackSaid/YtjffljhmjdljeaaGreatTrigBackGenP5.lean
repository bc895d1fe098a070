/- Printed by geng.py: a call does what the plain function says. -/
import Derived.Test.YtjffljhmjdljeaaGreatTrigBackGenP4
set_option linter.unusedVariables false
set_option linter.unusedSimpArgs false
set_option maxRecDepth 4000
namespace Go.Proofs.YtjffljhmjdljeaaGreat.Gen
open Go Go.Abs Go.Proofs Go.Proofs.Tryz
instance trig_Atan_i (a0:AD) (a1:Int):PC (trig_Atan a0 a1) Tryz.prog 13 [(.agg (kD.enc a0)),(.int .i64 a1)] (fun r=>(.tup [(.agg (kI.enc (⟨⟨(((r.1).Lo).M),((r.1).Lo).E⟩,⟨(((r.1).Hi).M),((r.1).Hi).E⟩⟩:AI))),(.int .i64 r.2)])):=pc func13 (by kernel_rfl) rfl fun E=>by
 unfold trig_Atan
 refine .g 12 rfl<|.p0 rfl rfl fun x168 _=>.g 3 rfl<|?_
 refine .cd rfl (fun _ _=>?_) fun _ _=>?_
 ·refine .g 9 rfl<|.fi rfl rfl
 ·refine .g 6 rfl<|.bind fun x169 h4=>?_
  rcases x169 with x170 | x171
  ·dsimp only
   refine .st rfl (cl (iv_New_k_0 h4) [] [2] [true] rfl (.i<|.nil) .nil (fresh_cons rfl fnil) (.cons .dead .nil) (ren_tupL (.cons .nilptr<|.i<|.nil)) (.turned .nil) rfl) rfl<|.g 25 rfl<|.no
  ·dsimp only
   refine .st rfl (cl (iv_New_k_1 h4) [] [2] [true] rfl (.i<|.nil) .nil (fresh_cons rfl fnil) (.cons (.v (.i<|.i<|.nil)) .nil) (ren_tupL (.p rfl<|.i<|.nil)) (.turned .nil) rfl) rfl<|.g 25 rfl<|.bind fun x172 h5=>.st rfl (cl (CC.h h5) [2] [] [true] rfl (.p rfl<|.a kD<|.nil) (.p rfl (.i<|.i<|.nil) .nil) fnil (.cons (.v (.i<|.i<|.nil)) .nil) (ren_agg (K:=kI) _) (.turned .nil) rfl) rfl<|.g 7 rfl<|.p0 rfl rfl fun x173 _=>.p0 rfl rfl fun x174 _=>.g 2 rfl<|.dn (by kernel_rfl)<|.g 7 rfl<|?_
   refine .cut (fun x:Bool × Int × Bool × (List Int) × Int × Bool × (List Int) × Int=>(trig_Atan_j1 x171 a0 a1 x.1 x.2.1 x.2.2.1 x.2.2.2.1 x.2.2.2.2.1 x.2.2.2.2.2.1 x.2.2.2.2.2.2.1 x.2.2.2.2.2.2.2,[eI 1 a1,eP 2 0,eP 4 1,eP 6 2,eP 9 4,eB 10 x.1],[(0,(.live 26 [(.bool a0.M.Neg),(slK (kInt .u32) a0.M.Mag),(.int .i64 a0.E)])),(1,(.live 37 [(.bool false),(slK (kInt .u32) []),(.int .i64 0),(.bool false),(slK (kInt .u32) []),(.int .i64 0)])),(2,(.live 54 [(.int .i64 x.2.1),(.int .i64 x171.2.2)])),(4,(.live 37 [(.bool x.2.2.1),(slK (kInt .u32) x.2.2.2.1),(.int .i64 x.2.2.2.2.1),(.bool x.2.2.2.2.2.1),(slK (kInt .u32) x.2.2.2.2.2.2.1),(.int .i64 x.2.2.2.2.2.2.2)]))])) ?_ ?_
   ·rintro ⟨y177,y178,y179,y180,y181,y182,y183,y184⟩
    dsimp only [trig_Atan_j1]
    refine .g 7 rfl<|?_
    refine .cut (fun x:Int × Bool × (List Int) × Int × Bool × (List Int) × Int=>(trig_Atan_j2 x171 y177 a0 a1 x.1 x.2.1 x.2.2.1 x.2.2.2.1 x.2.2.2.2.1 x.2.2.2.2.2.1 x.2.2.2.2.2.2,[eI 1 a1,eP 2 0,eP 4 1,eP 6 2,eP 9 4,eB 10 y177],[(0,(.live 26 [(.bool a0.M.Neg),(slK (kInt .u32) a0.M.Mag),(.int .i64 a0.E)])),(1,(.live 37 [(.bool false),(slK (kInt .u32) []),(.int .i64 0),(.bool false),(slK (kInt .u32) []),(.int .i64 0)])),(2,(.live 54 [(.int .i64 x.1),(.int .i64 x171.2.2)])),(4,(.live 37 [(.bool x.2.1),(slK (kInt .u32) x.2.2.1),(.int .i64 x.2.2.2.1),(.bool x.2.2.2.2.1),(slK (kInt .u32) x.2.2.2.2.2.1),(.int .i64 x.2.2.2.2.2.2)]))])) ?_ ?_
    ·rintro ⟨y243,y244,y245,y246,y247,y248,y249⟩
     dsimp only [trig_Atan_j2]
     refine .g 6 rfl<|.bind fun x250 h58=>.st rfl (cl (CC.h h58) [2] [] [true] rfl (.p rfl<|.a kI<|.nil) (.p rfl (.i<|.i<|.nil) .nil) fnil (.cons (.v (.i<|.i<|.nil)) .nil) (ren_agg (K:=kI) _) (.turned .nil) rfl) rfl<|.bind fun x251 h59=>.st rfl (cl (CC.h h59) [2] [] [true] rfl (.p rfl<|.a kI<|.i<|.nil) (.p rfl (.i<|.i<|.nil) .nil) fnil (.cons (.v (.i<|.i<|.nil)) .nil) (ren_agg (K:=kI) _) (.turned .nil) rfl) rfl<|.g 10 rfl<|?_
     refine .cut (fun x:Int × Bool × (List Int) × Int × Bool × (List Int) × Int=>(trig_Atan_j3 a0 x171 a1 x.1 x.2.1 x.2.2.1 x.2.2.2.1 x.2.2.2.2.1 x.2.2.2.2.2.1 x.2.2.2.2.2.2,[eI 1 a1,eP 2 0,eP 4 1,eP 6 2,eP 11 3],[(0,(.live 26 [(.bool a0.M.Neg),(slK (kInt .u32) a0.M.Mag),(.int .i64 a0.E)])),(1,(.live 37 [(.bool false),(slK (kInt .u32) []),(.int .i64 0),(.bool false),(slK (kInt .u32) []),(.int .i64 0)])),(2,(.live 54 [(.int .i64 x.1),(.int .i64 x171.2.2)])),(3,(.live 37 [(.bool x.2.1),(slK (kInt .u32) x.2.2.1),(.int .i64 x.2.2.2.1),(.bool x.2.2.2.2.1),(slK (kInt .u32) x.2.2.2.2.2.1),(.int .i64 x.2.2.2.2.2.2)]))])) ?_ ?_
     ·rintro ⟨y255,y256,y257,y258,y259,y260,y261⟩
      dsimp only [trig_Atan_j3]
      refine .g 9 rfl<|?_
      refine .cut (fun x:Int × Bool × (List Int) × Int × Bool × (List Int) × Int=>(trig_Atan_j4 a1 x171 x.1 x.2.1 x.2.2.1 x.2.2.2.1 x.2.2.2.2.1 x.2.2.2.2.2.1 x.2.2.2.2.2.2,[eI 1 a1,eP 4 1,eP 6 2,eP 11 3],[(1,(.live 37 [(.bool false),(slK (kInt .u32) []),(.int .i64 0),(.bool false),(slK (kInt .u32) []),(.int .i64 0)])),(2,(.live 54 [(.int .i64 x.1),(.int .i64 x171.2.2)])),(3,(.live 37 [(.bool x.2.1),(slK (kInt .u32) x.2.2.1),(.int .i64 x.2.2.2.1),(.bool x.2.2.2.2.1),(slK (kInt .u32) x.2.2.2.2.2.1),(.int .i64 x.2.2.2.2.2.2)]))])) ?_ ?_
      ·rintro ⟨y263,y264,y265,y266,y267,y268,y269⟩
       dsimp only [trig_Atan_j4]
       refine .g 6 rfl<|.bind fun x270 h68=>.st rfl (cl (CC.h h68) [2] [] [false] rfl (.p rfl<|.a kI<|.i<|.nil) (.p rfl (.i<|.i<|.nil) .nil) fnil (.cons (.v (.i<|.i<|.nil)) .nil) (ren_tupL (.a kI<|.i<|.nil)) (.kept rfl .nil) rfl) rfl<|.g 7 rfl<|.fi rfl rfl
      ·intro h69
       refine .cd rfl (fun _ _=>?_) fun _ _=>?_
       ·refine .g 3 rfl<|.bind fun x271 h72=>.st rfl (cl (CC.h h72) [2] [] [true] rfl (.p rfl<|.a kI<|.nil) (.p rfl (.i<|.i<|.nil) .nil) fnil (.cons (.v (.i<|.i<|.nil)) .nil) (ren_agg (K:=kI) _) (.turned .nil) rfl) rfl<|.g 2 rfl<|.jw (h69 (x271.2,(((x271.1).Lo).M).Neg,(((x271.1).Lo).M).Mag,((x271.1).Lo).E,(((x271.1).Hi).M).Neg,(((x271.1).Hi).M).Mag,((x271.1).Hi).E)) [(1,1),(2,2),(3,3)] rfl
       ·refine .g 1 rfl<|.jw (h69 (y255,y256,y257,y258,y259,y260,y261)) [(1,1),(2,2),(3,3)] rfl
     ·intro h73
      refine .cd rfl (fun _ _=>?_) fun _ _=>?_
      ·refine .g 4 rfl<|.bind fun x272 h76=>.st rfl (cl (CC.h h76) [2] [] [true] rfl (.p rfl<|.nil) (.p rfl (.i<|.i<|.nil) .nil) fnil (.cons (.v (.i<|.i<|.nil)) .nil) (ren_agg (K:=kI) _) (.turned .nil) rfl) rfl<|.bind fun x273 h77=>.st rfl (cl (CC.h h77) [2] [] [true] rfl (.p rfl<|.a kI<|.i<|.nil) (.p rfl (.i<|.i<|.nil) .nil) fnil (.cons (.v (.i<|.i<|.nil)) .nil) (ren_agg (K:=kI) _) (.turned .nil) rfl) rfl<|.g 1 rfl<|.bind fun x274 h78=>.st rfl (cl (CC.h h78) [2] [] [true] rfl (.p rfl<|.a kI<|.a kI<|.nil) (.p rfl (.i<|.i<|.nil) .nil) fnil (.cons (.v (.i<|.i<|.nil)) .nil) (ren_agg (K:=kI) _) (.turned .nil) rfl) rfl<|.g 1 rfl<|.dn (by kernel_rfl)<|.jw (h73 (x274.2,(((x274.1).Lo).M).Neg,(((x274.1).Lo).M).Mag,((x274.1).Lo).E,(((x274.1).Hi).M).Neg,(((x274.1).Hi).M).Mag,((x274.1).Hi).E)) [(0,0),(1,1),(2,2),(3,3)] rfl
      ·refine .g 1 rfl<|.jw (h73 (x251.2,(((x251.1).Lo).M).Neg,(((x251.1).Lo).M).Mag,((x251.1).Lo).E,(((x251.1).Hi).M).Neg,(((x251.1).Hi).M).Mag,((x251.1).Hi).E)) [(0,0),(1,1),(2,2),(3,3)] rfl
    ·intro h79
     refine .g 1 rfl<|?_
     refine .lp (fun n (x:Int × Int × Bool × (List Int) × Int × Bool × (List Int) × Int)=>trig_Atan_l5 x171 y177 a0 a1 n x.1 x.2.1 x.2.2.1 x.2.2.2.1 x.2.2.2.2.1 x.2.2.2.2.2.1 x.2.2.2.2.2.2.1 x.2.2.2.2.2.2.2) (fun x=>([eI 1 a1,eP 2 0,eP 4 1,eP 6 2,eP 9 4,eB 10 y177,eI 39 x.1],[(0,(.live 26 [(.bool a0.M.Neg),(slK (kInt .u32) a0.M.Mag),(.int .i64 a0.E)])),(1,(.live 37 [(.bool false),(slK (kInt .u32) []),(.int .i64 0),(.bool false),(slK (kInt .u32) []),(.int .i64 0)])),(2,(.live 54 [(.int .i64 x.2.1),(.int .i64 x171.2.2)])),(4,(.live 37 [(.bool x.2.2.1),(slK (kInt .u32) x.2.2.2.1),(.int .i64 x.2.2.2.2.1),(.bool x.2.2.2.2.2.1),(slK (kInt .u32) x.2.2.2.2.2.2.1),(.int .i64 x.2.2.2.2.2.2.2)]))])) (0,y178,y179,y180,y181,y182,y183,y184) [(0,0),(1,1),(2,2),(4,4)] rfl ?_
     rintro n5 ⟨y311,y312,y313,y314,y315,y316,y317,y318⟩
     try dsimp only
     rw [trig_Atan_l5]
     refine .g 6 rfl<|?_
     refine .cd rfl (fun _ _=>?_) fun _ _=>?_
     ·refine .g 9 rfl<|.bind fun x326 h119=>.st rfl (cl (CC.h h119) [2] [] [true] rfl (.p rfl<|.i<|.nil) (.p rfl (.i<|.i<|.nil) .nil) fnil (.cons (.v (.i<|.i<|.nil)) .nil) (ren_agg (K:=kI) _) (.turned .nil) rfl) rfl<|.g 3 rfl<|.bind fun x327 h120=>.st rfl (cl (CC.h h120) [2] [] [true] rfl (.p rfl<|.i<|.nil) (.p rfl (.i<|.i<|.nil) .nil) fnil (.cons (.v (.i<|.i<|.nil)) .nil) (ren_agg (K:=kI) _) (.turned .nil) rfl) rfl<|.g 3 rfl<|.bind fun x328 h121=>.st rfl (cl (CC.h h121) [2] [] [true] rfl (.p rfl<|.a kI<|.a kI<|.nil) (.p rfl (.i<|.i<|.nil) .nil) fnil (.cons (.v (.i<|.i<|.nil)) .nil) (ren_agg (K:=kI) _) (.turned .nil) rfl) rfl<|.bind fun x329 h122=>.st rfl (cl (CC.h h122) [2] [] [true] rfl (.p rfl<|.a kI<|.a kI<|.nil) (.p rfl (.i<|.i<|.nil) .nil) fnil (.cons (.v (.i<|.i<|.nil)) .nil) (ren_agg (K:=kI) _) (.turned .nil) rfl) rfl<|.bind fun x330 h123=>.st rfl (cl (CC.h h123) [2] [] [true] rfl (.p rfl<|.a kI<|.nil) (.p rfl (.i<|.i<|.nil) .nil) fnil (.cons (.v (.i<|.i<|.nil)) .nil) (ren_agg (K:=kI) _) (.turned .nil) rfl) rfl<|.bind fun x331 h124=>?_
      refine .st rfl (cl (CC.h h124) [2] [] [true] rfl (.p rfl<|.a kI<|.a kI<|.nil) (.p rfl (.i<|.i<|.nil) .nil) fnil (.cons (.v (.i<|.i<|.nil)) .nil) (ren_agg (K:=kI) _) (.turned .nil) rfl) rfl<|.bind fun x332 h125=>.st rfl (cl (CC.h h125) [2] [] [true] rfl (.p rfl<|.a kI<|.a kI<|.nil) (.p rfl (.i<|.i<|.nil) .nil) fnil (.cons (.v (.i<|.i<|.nil)) .nil) (ren_agg (K:=kI) _) (.turned .nil) rfl) rfl<|.g 1 rfl<|.dn (by kernel_rfl)<|.g 6 rfl<|.ag ((IntKind.i64.wrap (y311+1)),x332.2,(((x332.1).Lo).M).Neg,(((x332.1).Lo).M).Mag,((x332.1).Lo).E,(((x332.1).Hi).M).Neg,(((x332.1).Hi).M).Mag,((x332.1).Hi).E) [(0,0),(1,1),(2,2),(4,4)] rfl
     ·refine .g 4 rfl<|.jw (h79 (y312,y313,y314,y315,y316,y317,y318)) [(0,0),(1,1),(2,2),(4,4)] rfl
   ·intro h126
    refine .cd rfl (fun h127 _=>?_) fun h127 _=>?_
    ·refine .kn 10 true rfl h127<|.g 3 rfl<|.bind fun x333 h129=>.st rfl (cl (CC.h h129) [2] [] [true] rfl (.p rfl<|.i<|.nil) (.p rfl (.i<|.i<|.nil) .nil) fnil (.cons (.v (.i<|.i<|.nil)) .nil) (ren_agg (K:=kI) _) (.turned .nil) rfl) rfl<|.g 1 rfl<|.bind fun x334 h130=>.st rfl (cl (CC.h h130) [2] [] [true] rfl (.p rfl<|.a kI<|.a kI<|.nil) (.p rfl (.i<|.i<|.nil) .nil) fnil (.cons (.v (.i<|.i<|.nil)) .nil) (ren_agg (K:=kI) _) (.turned .nil) rfl) rfl<|.g 1 rfl<|.dn (by kernel_rfl)<|.jw (h126 (true,x334.2,(((x334.1).Lo).M).Neg,(((x334.1).Lo).M).Mag,((x334.1).Lo).E,(((x334.1).Hi).M).Neg,(((x334.1).Hi).M).Mag,((x334.1).Hi).E)) [(0,0),(1,1),(2,2),(4,4)] rfl
    ·refine .kn 10 false rfl h127<|.g 1 rfl<|.jw (h126 (false,x172.2,(((x172.1).Lo).M).Neg,(((x172.1).Lo).M).Mag,((x172.1).Lo).E,(((x172.1).Hi).M).Neg,(((x172.1).Hi).M).Mag,((x172.1).Hi).E)) [(0,0),(1,1),(2,2),(4,4)] rfl
instance cv_Hull_i (a0:List AI) (a1:Int) (a2:Int):CC (cv_Hull a0 a1 a2) Tryz.prog 18 [(.ptr 0 0),(slK kI a0)] [(.live 54 [(.int .i64 a1),(.int .i64 a2)])] (fun r=>(.agg (kI.enc (⟨⟨(((r.1).Lo).M),((r.1).Lo).E⟩,⟨(((r.1).Hi).M),((r.1).Hi).E⟩⟩:AI)))) (fun r=>[(.live 54 [(.int .i64 r.2),(.int .i64 a2)])]):=cc func18 (by kernel_rfl) rfl fun E=>by
 unfold cv_Hull
 refine .g 9 rfl<|.ln rfl rfl<|.g 3 rfl<|?_
 refine .cut (fun x:Int=>(cv_Hull_j1 a0 a2 x,[eP 0 0,eK kI 1 a0,eP 4 1],[(0,(.live 54 [(.int .i64 x),(.int .i64 a2)])),(1,(.live 37 [(.bool false),(slK (kInt .u32) []),(.int .i64 0),(.bool false),(slK (kInt .u32) []),(.int .i64 0)]))])) ?_ ?_
 ·rintro y16
  dsimp only [cv_Hull_j1]
  refine .g 6 rfl<|.bind fun x17 h4=>.st rfl (cl (CC.h h4) [0] [] [true] rfl (.p rfl<|.l<|.nil) (.p rfl (.i<|.i<|.nil) .nil) fnil (.cons (.v (.i<|.i<|.nil)) .nil) (.bool _) (.turned .nil) rfl) rfl<|.g 3 rfl<|?_
  refine .cd rfl (fun _ _=>?_) fun _ _=>?_
  ·refine .g 8 rfl<|.fi rfl rfl
  ·refine .g 11 rfl<|.ln rfl rfl<|.g 3 rfl<|?_
   refine .cut (fun x:(List AD)=>(cv_Hull_j2 x17 x,[eP 4 1,(5,some (grA kD 2 x))],[(0,(.live 54 [(.int .i64 x17.2),(.int .i64 a2)])),(1,(.live 37 [(.bool false),(slK (kInt .u32) []),(.int .i64 0),(.bool false),(slK (kInt .u32) []),(.int .i64 0)])),(2,(grV kD 26 x))])) ?_ ?_
   ·rintro y22
    dsimp only [cv_Hull_j2]
    refine .g 2 rfl<|?_
    refine .weak ?_ (fun a w h=>Conc.gr_still kD h 5 2 26 y22 rfl rfl)
    refine .g 2 rfl<|.p0 rfl rfl fun x23 _=>.g 18 rfl<|.fi rfl rfl
   ·intro h26
    refine .g 1 rfl<|?_
    refine .weak ?_ (fun a w h=>Conc.gr_nil kD h 5 2 26 rfl)
    refine .lo (fun n (x:Int × (List AD))=>cv_Hull_l3 a0 x17 n x.1 x.2) (fun x=>([eP 4 1,(5,some (grA kD 2 x.2)),eK kI 22 a0,eI 23 (a0.length:Int),eI 24 x.1],[(0,(.live 54 [(.int .i64 x17.2),(.int .i64 a2)])),(1,(.live 37 [(.bool false),(slK (kInt .u32) []),(.int .i64 0),(.bool false),(slK (kInt .u32) []),(.int .i64 0)])),(2,(grV kD 26 x.2))])) (0,[]) rfl (fun hE=>jn (m:=1) [(0,0),(1,1),(2,2)] hE (.p rfl rfl<|.g rfl (ren_gr (K:=kD) (by rfl) [])<|.l rfl<|.i rfl<|.i rfl<|.nil) (.v rfl (.i<|.i<|.nil)<|.v rfl (.b<|.l<|.i<|.b<|.l<|.i<|.nil)<|.cons (.refl _) (renV_gr (K:=kD) 26 [])<|.nil) rfl) ?_
    rintro n3 ⟨y26,y27⟩
    try dsimp only
    rw [cv_Hull_l3]
    refine .g 6 rfl<|?_
    refine .cd rfl (fun _ _=>?_) fun _ _=>?_
    ·refine .g 6 rfl<|.ix rfl rfl<|.g 11 rfl<|.st rfl (bs kD [(⟨(((a0.getD y26.toNat zAI).Lo).M),((a0.getD y26.toNat zAI).Lo).E⟩:AD),(⟨(((a0.getD y26.toNat zAI).Hi).M),((a0.getD y26.toNat zAI).Hi).E⟩:AD)] rfl rfl) rfl<|.guard fun h44=>.sv (.row 4 kD.sz 0 (((y27++[(⟨(((a0.getD y26.toNat zAI).Lo).M),((a0.getD y26.toNat zAI).Lo).E⟩:AD),(⟨(((a0.getD y26.toNat zAI).Hi).M),((a0.getD y26.toNat zAI).Hi).E⟩:AD)])).length)) [(4,(rwK kD 26 (y27++[(⟨(((a0.getD y26.toNat zAI).Lo).M),((a0.getD y26.toNat zAI).Lo).E⟩:AD),(⟨(((a0.getD y26.toNat zAI).Hi).M),((a0.getD y26.toNat zAI).Hi).E⟩:AD)]))),(2,.dead)] rfl (snd_appendK_gr kD _ _ _ _ _ 2 4 y27 [(⟨(((a0.getD y26.toNat zAI).Lo).M),((a0.getD y26.toNat zAI).Lo).E⟩:AD),(⟨(((a0.getD y26.toNat zAI).Hi).M),((a0.getD y26.toNat zAI).Hi).E⟩:AD)] rfl underlying90 ze26 sb26 rfl rfl rfl rfl rfl rfl rfl h44) rfl<|.g 8 rfl<|?_
     refine .weak ?_ (fun a w h=>Conc.gr_row kD h 5 4 26 (y27++[(⟨(((a0.getD y26.toNat zAI).Lo).M),((a0.getD y26.toNat zAI).Lo).E⟩:AD),(⟨(((a0.getD y26.toNat zAI).Hi).M),((a0.getD y26.toNat zAI).Hi).E⟩:AD)]) rfl rfl (by first | omega | (simp only [List.length_append,List.length_cons,List.length_set]; omega) | simp))
     exact .ao ((IntKind.i64.wrap (y26+1)),(y27++[(⟨(((a0.getD y26.toNat zAI).Lo).M),((a0.getD y26.toNat zAI).Lo).E⟩:AD),(⟨(((a0.getD y26.toNat zAI).Hi).M),((a0.getD y26.toNat zAI).Hi).E⟩:AD)])) rfl fun hE=>jn (m:=1) [(0,0),(1,1),(4,2)] hE (.p rfl rfl<|.g rfl (ren_gr (K:=kD) (by rfl) (y27++[(⟨(((a0.getD y26.toNat zAI).Lo).M),((a0.getD y26.toNat zAI).Lo).E⟩:AD),(⟨(((a0.getD y26.toNat zAI).Hi).M),((a0.getD y26.toNat zAI).Hi).E⟩:AD)]))<|.l rfl<|.i rfl<|.i rfl<|.nil) (.v rfl (.i<|.i<|.nil)<|.v rfl (.b<|.l<|.i<|.b<|.l<|.i<|.nil)<|.cons (.refl _) (renV_gr (K:=kD) 26 (y27++[(⟨(((a0.getD y26.toNat zAI).Lo).M),((a0.getD y26.toNat zAI).Lo).E⟩:AD),(⟨(((a0.getD y26.toNat zAI).Hi).M),((a0.getD y26.toNat zAI).Hi).E⟩:AD)]))<|.nil) rfl
    ·refine .g 4 rfl<|.jo (h26 y27) rfl fun hE=>jn (m:=1) [(0,0),(1,1),(2,2)] hE (.p rfl rfl<|.g rfl (ren_gr (K:=kD) (by rfl) y27)<|.nil) (.v rfl (.i<|.i<|.nil)<|.v rfl (.b<|.l<|.i<|.b<|.l<|.i<|.nil)<|.cons (.refl _) (renV_gr (K:=kD) 26 y27)<|.nil) rfl
 ·intro h45
  refine .cd rfl (fun _ _=>?_) fun _ _=>?_
  ·refine .g 4 rfl<|.bind fun x28 h48=>.st rfl (cl (CC.h h48) [0] [] [true] rfl (.p rfl<|.i<|.nil) (.p rfl (.i<|.i<|.nil) .nil) fnil (.cons (.v (.i<|.i<|.nil)) .nil) (.bool _) (.turned .nil) rfl) rfl<|.g 1 rfl<|.jw (h45 x28.2) [(0,0),(1,1)] rfl
  ·refine .g 1 rfl<|.jw (h45 a1) [(0,0),(1,1)] rfl
instance r04_Same_i (a0:ApiInt) (a1:ApiInt):PC (r04_Same a0 a1) Tryz.prog 208 [(.agg (kN.enc a0)),(.agg (kN.enc a1))] (fun r=>(.bool r)):=pc func208 (by kernel_rfl) rfl fun E=>by
 unfold r04_Same
 refine .g 9 rfl<|?_
 refine .cut (fun x:Bool=>(r04_Same_j1 a0 a1 x,[eP 2 0,eP 3 1,eB 19 x],[(0,(.live 24 [(.bool a0.Neg),(slK (kInt .u32) a0.Mag)])),(1,(.live 24 [(.bool a1.Neg),(slK (kInt .u32) a1.Mag)]))])) ?_ ?_
 ·rintro y6
  dsimp only [r04_Same_j1]
  refine .g 1 rfl<|?_
  refine .cd rfl (fun _ _=>?_) fun _ _=>?_
  ·refine .g 7 rfl<|.fi rfl rfl
  ·refine .g 8 rfl<|?_
   refine .cut (fun x:Unit=>(r04_Same_j2,[],[])) ?_ ?_
   ·rintro _
    dsimp only [r04_Same_j2]
    refine .g 7 rfl<|.fi rfl rfl
   ·intro h34
    refine .g 1 rfl<|?_
    refine .lp (fun n (x:Int)=>r04_Same_l3 a0 a1 n x) (fun x=>([eP 2 0,eP 3 1,eI 5 x],[(0,(.live 24 [(.bool a0.Neg),(slK (kInt .u32) a0.Mag)])),(1,(.live 24 [(.bool a1.Neg),(slK (kInt .u32) a1.Mag)]))])) 0 [(0,0),(1,1)] rfl ?_
    rintro n3 y10
    try dsimp only
    rw [r04_Same_l3]
    refine .g 6 rfl<|.ln rfl rfl<|.g 3 rfl<|?_
    refine .cd rfl (fun _ _=>?_) fun _ _=>?_
    ·refine .g 9 rfl<|.ix rfl rfl<|.g 4 rfl<|.ix rfl rfl<|.g 2 rfl<|.dn (by kernel_rfl)<|.g 1 rfl<|?_
     refine .cd rfl (fun _ _=>?_) fun _ _=>?_
     ·refine .g 11 rfl<|.fi rfl rfl
     ·refine .g 8 rfl<|.ag (IntKind.i64.wrap (y10+1)) [(0,0),(1,1)] rfl
    ·refine .g 4 rfl<|.jw (h34 ()) [] rfl
 ·intro h65
  refine .g 7 rfl<|?_
  refine .gd 11 rfl (fun _=>?_) fun _=>?_
  ·refine .g 9 rfl<|.jw (h65 true) [(0,0),(1,1)] rfl
  ·refine .g 2 rfl<|.ln rfl rfl<|.g 2 rfl<|.ln rfl rfl<|.g 3 rfl<|.jw (h65 ((a0.Mag.length:Int) != (a1.Mag.length:Int))) [(0,0),(1,1)] rfl
instance r05_Same_i (a0:AD) (a1:AD):PC (r05_Same a0 a1) Tryz.prog 142 [(.agg (kD.enc a0)),(.agg (kD.enc a1))] (fun r=>(.bool r)):=pc func142 (by kernel_rfl) rfl fun E=>by
 unfold r05_Same
 refine .g 8 rfl<|?_
 refine .cut (fun x:Bool=>(r05_Same_j1 x,[eB 4 x],[])) ?_ ?_
 ·rintro y5
  dsimp only [r05_Same_j1]
  refine .g 2 rfl<|.fi rfl rfl
 ·intro h3
  refine .g 7 rfl<|?_
  refine .gd 10 rfl (fun _=>?_) fun _=>?_
  ·refine .g 4 rfl<|.p0 rfl rfl fun x6 _=>.g 3 rfl<|.jw (h3 x6) [] rfl
  ·refine .g 8 rfl<|.jw (h3 false) [] rfl
instance r06_Same_i (a0:AI) (a1:AI):PC (r06_Same a0 a1) Tryz.prog 79 [(.agg (kI.enc a0)),(.agg (kI.enc a1))] (fun r=>(.bool r)):=pc func79 (by kernel_rfl) rfl fun E=>by
 unfold r06_Same
 refine .g 8 rfl<|?_
 refine .cut (fun x:Bool=>(r06_Same_j1 x,[eB 4 x],[])) ?_ ?_
 ·rintro y8
  dsimp only [r06_Same_j1]
  refine .g 2 rfl<|.fi rfl rfl
 ·intro h4
  refine .g 5 rfl<|.p0 rfl rfl fun x9 _=>.g 1 rfl<|?_
  refine .gd 10 rfl (fun _=>?_) fun _=>?_
  ·refine .g 4 rfl<|.p0 rfl rfl fun x10 _=>.g 3 rfl<|.jw (h4 x10) [] rfl
  ·refine .g 8 rfl<|.jw (h4 false) [] rfl
instance l10_same_i (a0:AI) (a1:AI):PC (l10_same a0 a1) Tryz.prog 19 [(.agg (kI.enc a0)),(.agg (kI.enc a1))] (fun r=>(.bool r)):=pc func19 (by kernel_rfl) rfl fun E=>by
 unfold l10_same
 refine .g 11 rfl<|.p0 rfl rfl fun x2 _=>.g 4 rfl<|.fi rfl rfl
instance cv_Meet_i (a0:AI) (a1:AI) (a2:Int) (a3:Int):CC (cv_Meet a0 a1 a2 a3) Tryz.prog 23 [(.ptr 0 0),(.agg (kI.enc a0)),(.agg (kI.enc a1))] [(.live 54 [(.int .i64 a2),(.int .i64 a3)])] (fun r=>(.agg (kI.enc (⟨⟨(((r.1).Lo).M),((r.1).Lo).E⟩,⟨(((r.1).Hi).M),((r.1).Hi).E⟩⟩:AI)))) (fun r=>[(.live 54 [(.int .i64 r.2),(.int .i64 a3)])]):=cc func23 (by kernel_rfl) rfl fun E=>by
 unfold cv_Meet
 refine .g 13 rfl<|.st rfl (bs kI [a0,a1] rfl rfl) rfl<|.bind fun x6 h1=>.st rfl (cl (CC.h h1) [0] [] [true] rfl (.p rfl<|.l<|.nil) (.p rfl (.i<|.i<|.nil) .nil) fnil (.cons (.v (.i<|.i<|.nil)) .nil) (.bool _) (.turned .nil) rfl) rfl<|.g 3 rfl<|?_
 refine .cd rfl (fun _ _=>?_) fun _ _=>?_
 ·refine .g 8 rfl<|.fi rfl rfl
 ·refine .g 8 rfl<|.st rfl (bs kD [a0.Lo,a1.Lo] rfl rfl) rfl<|.p0 rfl rfl fun x7 _=>.g 15 rfl<|.st rfl (bs kD [a0.Hi,a1.Hi] rfl rfl) rfl<|.p0 rfl rfl fun x8 _=>.g 14 rfl<|.p0 rfl rfl fun x9 _=>.g 3 rfl<|?_
  refine .cd rfl (fun _ _=>?_) fun _ _=>?_
  ·refine .g 5 rfl<|.bind fun x10 h9=>.st rfl (cl (CC.h h9) [0] [] [true] rfl (.p rfl<|.i<|.nil) (.p rfl (.i<|.i<|.nil) .nil) fnil (.cons (.v (.i<|.i<|.nil)) .nil) (.bool _) (.turned .nil) rfl) rfl<|.g 10 rfl<|.fi rfl rfl
  ·refine .g 11 rfl<|.fi rfl rfl
instance l10_TrigBack_i (a0:AD) (a1:Int):PC (l10_TrigBack a0 a1) Tryz.prog 3 [(.agg (kD.enc a0)),(.int .i64 a1)] (fun r=>(.bool r)):=pc func3 (by kernel_rfl) rfl fun E=>by
 unfold l10_TrigBack
 refine .g 8 rfl<|.p0 rfl rfl fun x37 _=>.g 10 rfl<|?_
 refine .cd rfl (fun _ _=>?_) fun _ _=>?_
 ·refine .g 7 rfl<|.fi rfl rfl
 ·refine .g 5 rfl<|.p0 rfl rfl fun x38 _=>.g 7 rfl<|.bind fun x39 h5=>?_
  rcases x39 with x40 | x41
  ·dsimp only
   refine .st rfl (cl (iv_New_k_0 h5) [] [1] [true] rfl (.i<|.nil) .nil (fresh_cons rfl fnil) (.cons .dead .nil) (ren_tupL (.cons .nilptr<|.i<|.nil)) (.turned .nil) rfl) rfl<|.g 26 rfl<|.fi rfl rfl
  ·dsimp only
   refine .st rfl (cl (iv_New_k_1 h5) [] [1] [true] rfl (.i<|.nil) .nil (fresh_cons rfl fnil) (.cons (.v (.i<|.i<|.nil)) .nil) (ren_tupL (.p rfl<|.i<|.nil)) (.turned .nil) rfl) rfl<|.g 18 rfl<|?_
   refine .cd rfl (fun _ _=>?_) fun _ _=>?_
   ·refine .g 7 rfl<|.fi rfl rfl
   ·refine .g 5 rfl<|.p0 rfl rfl fun x42 _=>.g 7 rfl<|.p0 rfl rfl fun x43 _=>.g 9 rfl<|?_
    refine .cut (fun x:Bool=>(l10_TrigBack_j1 x37 x42 x38 x41 x,[eI 1 (mx x38 20),eB 5 x37,eP 6 1,eP 8 2,eB 62 x],[(1,(.live 54 [(.int .i64 x41.2.1),(.int .i64 x41.2.2)])),(2,(.live 26 [(.bool (((x42).M).Neg)),(slK (kInt .u32) (((x42).M).Mag)),(.int .i64 ((x42).E))]))])) ?_ ?_
    ·rintro y44
     dsimp only [l10_TrigBack_j1]
     refine .g 1 rfl<|?_
     refine .cd rfl (fun _ _=>?_) fun _ _=>?_
     ·refine .g 8 rfl<|.fi rfl rfl
     ·refine .g 6 rfl<|.p0 rfl rfl fun x45 _=>.g 11 rfl<|.p0 rfl rfl fun x46 _=>.g 1 rfl<|.p0 rfl rfl fun x47 _=>.g 13 rfl<|.p0 rfl rfl fun x48 _=>.g 13 rfl<|.p0 rfl rfl fun x49 _=>.g 13 rfl<|.p0 rfl rfl fun x50 _=>.g 13 rfl<|.p0 rfl rfl fun x51 _=>?_
      refine .g 14 rfl<|.st rfl (bs kI [(⟨⟨(((x48.1).Lo).M),((x48.1).Lo).E⟩,⟨(((x48.1).Hi).M),((x48.1).Hi).E⟩⟩:AI),(⟨⟨(((x49.1).Lo).M),((x49.1).Lo).E⟩,⟨(((x49.1).Hi).M),((x49.1).Hi).E⟩⟩:AI)] rfl rfl) rfl<|.bind fun x52 h20=>.st rfl (cl (CC.h h20) [1] [] [true] rfl (.p rfl<|.l<|.nil) (.p rfl (.i<|.i<|.nil) .nil) fnil (.cons (.v (.i<|.i<|.nil)) .nil) (ren_agg (K:=kI) _) (.turned .nil) rfl) rfl<|.g 3 rfl<|.st rfl (bs kI [(⟨⟨(((x50.1).Lo).M),((x50.1).Lo).E⟩,⟨(((x50.1).Hi).M),((x50.1).Hi).E⟩⟩:AI),(⟨⟨(((x51.1).Lo).M),((x51.1).Lo).E⟩,⟨(((x51.1).Hi).M),((x51.1).Hi).E⟩⟩:AI)] rfl rfl) rfl<|.bind fun x53 h21=>.st rfl (cl (CC.h h21) [1] [] [true] rfl (.p rfl<|.l<|.nil) (.p rfl (.i<|.i<|.nil) .nil) fnil (.cons (.v (.i<|.i<|.nil)) .nil) (ren_agg (K:=kI) _) (.turned .nil) rfl) rfl<|.bind fun x54 h22=>.st rfl (cl (CC.h h22) [1] [] [true] rfl (.p rfl<|.a kI<|.a kI<|.nil) (.p rfl (.i<|.i<|.nil) .nil) fnil (.cons (.v (.i<|.i<|.nil)) .nil) (ren_agg (K:=kI) _) (.turned .nil) rfl) rfl<|.g 2 rfl<|.dn (by kernel_rfl)<|.g 6 rfl<|.bind fun x55 h23=>?_
      refine .st rfl (cl (CC.h h23) [1] [] [true] rfl (.p rfl<|.a kI<|.nil) (.p rfl (.i<|.i<|.nil) .nil) fnil (.cons (.v (.i<|.i<|.nil)) .nil) (ren_agg (K:=kI) _) (.turned .nil) rfl) rfl<|.p0 rfl rfl fun x56 _=>.g 1 rfl<|.dn (by kernel_rfl)<|.g 19 rfl<|.bind fun x57 h25=>.st rfl (cl (CC.h h25) [1] [] [true] rfl (.p rfl<|.i<|.nil) (.p rfl (.i<|.i<|.nil) .nil) fnil (.cons (.v (.i<|.i<|.nil)) .nil) (ren_agg (K:=kI) _) (.turned .nil) rfl) rfl<|.g 2 rfl<|.bind fun x58 h26=>.st rfl (cl (CC.h h26) [1] [] [true] rfl (.p rfl<|.a kD<|.nil) (.p rfl (.i<|.i<|.nil) .nil) fnil (.cons (.v (.i<|.i<|.nil)) .nil) (ren_agg (K:=kI) _) (.turned .nil) rfl) rfl<|.bind fun x59 h27=>.st rfl (cl (CC.h h27) [1] [] [true] rfl (.p rfl<|.a kI<|.a kI<|.nil) (.p rfl (.i<|.i<|.nil) .nil) fnil (.cons (.v (.i<|.i<|.nil)) .nil) (ren_agg (K:=kI) _) (.turned .nil) rfl) rfl<|.g 2 rfl<|.dn (by kernel_rfl)<|?_
      refine .g 6 rfl<|.p0 rfl rfl fun x60 _=>.g 13 rfl<|.p0 rfl rfl fun x61 _=>.g 12 rfl<|.p0 rfl rfl fun x62 _=>.g 16 rfl<|.st rfl (bs kI [(⟨⟨(((x60.1).Lo).M),((x60.1).Lo).E⟩,⟨(((x60.1).Hi).M),((x60.1).Hi).E⟩⟩:AI),(⟨⟨(((x61.1).Lo).M),((x61.1).Lo).E⟩,⟨(((x61.1).Hi).M),((x61.1).Hi).E⟩⟩:AI)] rfl rfl) rfl<|.bind fun x63 h31=>.st rfl (cl (CC.h h31) [1] [] [true] rfl (.p rfl<|.l<|.nil) (.p rfl (.i<|.i<|.nil) .nil) fnil (.cons (.v (.i<|.i<|.nil)) .nil) (ren_agg (K:=kI) _) (.turned .nil) rfl) rfl<|.bind fun x64 h32=>.st rfl (cl (CC.h h32) [1] [] [true] rfl (.p rfl<|.a kI<|.a kI<|.nil) (.p rfl (.i<|.i<|.nil) .nil) fnil (.cons (.v (.i<|.i<|.nil)) .nil) (ren_agg (K:=kI) _) (.turned .nil) rfl) rfl<|.g 2 rfl<|.bind fun x65 h33=>?_
      refine .st rfl (cl (CC.h h33) [1] [] [true] rfl (.p rfl<|.nil) (.p rfl (.i<|.i<|.nil) .nil) fnil (.cons (.v (.i<|.i<|.nil)) .nil) (ren_agg (K:=kI) _) (.turned .nil) rfl) rfl<|.bind fun x66 h34=>.st rfl (cl (CC.h h34) [1] [] [true] rfl (.p rfl<|.a kI<|.i<|.nil) (.p rfl (.i<|.i<|.nil) .nil) fnil (.cons (.v (.i<|.i<|.nil)) .nil) (ren_agg (K:=kI) _) (.turned .nil) rfl) rfl<|.bind fun x67 h35=>.st rfl (cl (CC.h h35) [1] [] [true] rfl (.p rfl<|.a kI<|.a kI<|.nil) (.p rfl (.i<|.i<|.nil) .nil) fnil (.cons (.v (.i<|.i<|.nil)) .nil) (ren_agg (K:=kI) _) (.turned .nil) rfl) rfl<|.dn (by kernel_rfl)<|.g 2 rfl<|?_
      refine .cut (fun x:Bool=>(l10_TrigBack_j2 x,[eB 4 x],[])) ?_ ?_
      ·rintro y70
       dsimp only [l10_TrigBack_j2]
       refine .g 2 rfl<|.fi rfl rfl
      ·intro h50
       refine .g 3 rfl<|?_
       refine .gd 167 rfl (fun _=>?_) fun _=>?_
       ·refine .g 4 rfl<|?_
        refine .gd 171 rfl (fun _=>?_) fun _=>?_
        ·refine .g 4 rfl<|?_
         refine .gd 175 rfl (fun _=>?_) fun _=>?_
         ·refine .g 4 rfl<|?_
          refine .gd 179 rfl (fun _=>?_) fun _=>?_
          ·refine .g 4 rfl<|?_
           refine .gd 183 rfl (fun _=>?_) fun _=>?_
           ·refine .g 4 rfl<|?_
            refine .gd 187 rfl (fun _=>?_) fun _=>?_
            ·refine .g 4 rfl<|?_
             refine .gd 191 rfl (fun _=>?_) fun _=>?_
             ·refine .g 4 rfl<|?_
              refine .gd 195 rfl (fun _=>?_) fun _=>?_
              ·refine .g 4 rfl<|?_
               refine .gd 199 rfl (fun _=>?_) fun _=>?_
               ·refine .g 4 rfl<|?_
                refine .gd 203 rfl (fun _=>?_) fun _=>?_
                ·refine .g 2 rfl<|.p0 rfl rfl fun x71 _=>.g 2 rfl<|?_
                 refine .gd 208 rfl (fun _=>?_) fun _=>?_
                 ·refine .g 3 rfl<|?_
                  refine .gd 211 rfl (fun _=>?_) fun _=>?_
                  ·refine .g 3 rfl<|.bind fun x72 h64=>.st rfl (cl (CC.h h64) [1] [] [false] rfl (.p rfl<|.nil) (.p rfl (.i<|.i<|.nil) .nil) fnil (.cons (.v (.i<|.i<|.nil)) .nil) (.int _ _) (.kept rfl .nil) rfl) rfl<|.g 4 rfl<|.jw (h50 (x72 == 0)) [] rfl
                  ·refine .g 8 rfl<|.jw (h50 false) [] rfl
                 ·refine .g 11 rfl<|.jw (h50 false) [] rfl
                ·refine .g 16 rfl<|.jw (h50 false) [] rfl
               ·refine .g 20 rfl<|.jw (h50 false) [] rfl
              ·refine .g 24 rfl<|.jw (h50 false) [] rfl
             ·refine .g 28 rfl<|.jw (h50 false) [] rfl
            ·refine .g 32 rfl<|.jw (h50 false) [] rfl
           ·refine .g 36 rfl<|.jw (h50 false) [] rfl
          ·refine .g 40 rfl<|.jw (h50 false) [] rfl
         ·refine .g 44 rfl<|.jw (h50 false) [] rfl
        ·refine .g 48 rfl<|.jw (h50 false) [] rfl
       ·refine .g 52 rfl<|.jw (h50 false) [] rfl
    ·intro h65
     refine .g 4 rfl<|?_
     refine .gd 59 rfl (fun _=>?_) fun _=>?_
     ·refine .g 4 rfl<|.jw (h65 true) [(1,1),(2,2)] rfl
     ·refine .g 4 rfl<|.jw (h65 (decide (x43.1<(-3)))) [(1,1),(2,2)] rfl
end Go.Proofs.YtjffljhmjdljeaaGreat.Gen
