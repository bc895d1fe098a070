/- Printed by geng.py: a call does what the plain function says. -/
import Derived.Test.YtpcdcpjjekkemaaGreatBessSumGenP2
set_option linter.unusedVariables false
set_option linter.unusedSimpArgs false
set_option maxRecDepth 4000
namespace Go.Proofs.YtpcdcpjjekkemaaGreat.Gen
open Go Go.Abs Go.Proofs Go.Proofs.Tryz
instance bess_J_i (a0:Int) (a1:AD) (a2:Int):PC (bess_J a0 a1 a2) Tryz.prog 10 [(.int .i64 a0),(.agg (kApiDy.enc a1)),(.int .i64 a2)] (fun r=>(.tup [(.agg (kI.enc (⟨⟨(((r.1).Lo).M),((r.1).Lo).E⟩,⟨(((r.1).Hi).M),((r.1).Hi).E⟩⟩:AI))),(.int .i64 r.2)])):=pc func10 (by kernel_rfl) rfl fun E=>by
 unfold bess_J
 refine .g 9 rfl<|?_
 refine .cut (fun x:Bool=>(bess_J_j1 a1 a2 a0 x,[eI 0 a0,eI 2 a2,eP 4 0,eP 6 1,eB 30 x],[(0,(.live 26 [(.bool a1.M.Neg),(slK (kInt .u32) a1.M.Mag),(.int .i64 a1.E)])),(1,(.live 35 [(.bool false),(slK (kInt .u32) []),(.int .i64 0),(.bool false),(slK (kInt .u32) []),(.int .i64 0)]))])) ?_ ?_
 ·rintro y180
  dsimp only [bess_J_j1]
  refine .g 1 rfl<|?_
  refine .cd rfl (fun _ _=>?_) fun _ _=>?_
  ·refine .g 9 rfl<|.fi rfl rfl
  ·refine .g 6 rfl<|.p0 rfl rfl fun x181 _=>.g 14 rfl<|?_
   refine .cd rfl (fun _ _=>?_) fun _ _=>?_
   ·refine .g 10 rfl<|.fi rfl rfl
   ·refine .g 6 rfl<|.bind fun x182 h7=>?_
    rcases x182 with x183 | x184
    ·dsimp only
     refine .st rfl (cl (iv_New_k_0 h7) [] [2] [true] rfl (.i<|.nil) .nil (fresh_cons rfl fnil) (.cons .dead .nil) (ren_tupL (.cons .nilptr<|.i<|.nil)) (.turned .nil) rfl) rfl<|.g 14 rfl<|.ln rfl rfl<|.g 3 rfl<|?_
     refine .cd rfl (fun _ _=>?_) fun _ _=>?_
     ·refine .g 6 rfl<|.no
     ·refine .g 7 rfl<|.no
    ·dsimp only
     refine .st rfl (cl (iv_New_k_1 h7) [] [2] [true] rfl (.i<|.nil) .nil (fresh_cons rfl fnil) (.cons (.v (.i<|.i<|.nil)) .nil) (ren_tupL (.p rfl<|.i<|.nil)) (.turned .nil) rfl) rfl<|.g 14 rfl<|.ln rfl rfl<|.g 3 rfl<|?_
     refine .cd rfl (fun _ _=>?_) fun _ _=>?_
     ·refine .g 6 rfl<|.bind fun x185 h12=>.st rfl (cl (CC.h h12) [2] [] [true] rfl (.p rfl<|.i<|.nil) (.p rfl (.i<|.i<|.nil) .nil) fnil (.cons (.v (.i<|.i<|.nil)) .nil) (ren_agg (K:=kI) _) (.turned .nil) rfl) rfl<|.g 6 rfl<|.fi rfl rfl
     ·refine .g 7 rfl<|.bind fun x186 h13=>.st rfl (cl (CC.h h13) [2] [] [true] rfl (.p rfl<|.a kApiDy<|.nil) (.p rfl (.i<|.i<|.nil) .nil) fnil (.cons (.v (.i<|.i<|.nil)) .nil) (ren_agg (K:=kI) _) (.turned .nil) rfl) rfl<|.bind fun x187 h14=>.st rfl (cl (CC.h h14) [2] [] [true] rfl (.p rfl<|.a kI<|.i<|.nil) (.p rfl (.i<|.i<|.nil) .nil) fnil (.cons (.v (.i<|.i<|.nil)) .nil) (ren_agg (K:=kI) _) (.turned .nil) rfl) rfl<|.g 2 rfl<|.dn (by kernel_rfl)<|.g 6 rfl<|.bind fun x188 h15=>.st rfl (cl (CC.h h15) [2] [] [true] rfl (.p rfl<|.a kI<|.a kI<|.nil) (.p rfl (.i<|.i<|.nil) .nil) fnil (.cons (.v (.i<|.i<|.nil)) .nil) (ren_agg (K:=kI) _) (.turned .nil) rfl) rfl<|.g 13 rfl<|.bind fun x189 h16=>.st rfl (cl (CC.h h16) [2] [] [true] rfl (.p rfl<|.i<|.nil) (.p rfl (.i<|.i<|.nil) .nil) fnil (.cons (.v (.i<|.i<|.nil)) .nil) (ren_agg (K:=kI) _) (.turned .nil) rfl) rfl<|.g 11 rfl<|?_
      refine .cut (fun x:Int × Bool × (List Int) × Int × Bool × (List Int) × Int=>(bess_J_j2 x181 x188 a0 x184 a2 x.1 x.2.1 x.2.2.1 x.2.2.2.1 x.2.2.2.2.1 x.2.2.2.2.2.1 x.2.2.2.2.2.2,[eI 0 a0,eI 2 a2,eP 6 1,eI 8 x181.1,eP 10 3,eP 13 5,(14,some (.fn 33 [] [(.ptr 3 0)])),eP 15 6],[(1,(.live 35 [(.bool false),(slK (kInt .u32) []),(.int .i64 0),(.bool false),(slK (kInt .u32) []),(.int .i64 0)])),(3,(.live 29 [(.ptr 2 0)])),(2,(.live 45 [(.int .i64 x.1),(.int .i64 x184.2.2)])),(5,(.live 35 [(.bool ((((x188.1).Lo).M).Neg)),(slK (kInt .u32) ((((x188.1).Lo).M).Mag)),(.int .i64 (((x188.1).Lo).E)),(.bool ((((x188.1).Hi).M).Neg)),(slK (kInt .u32) ((((x188.1).Hi).M).Mag)),(.int .i64 (((x188.1).Hi).E))])),(6,(.live 35 [(.bool x.2.1),(slK (kInt .u32) x.2.2.1),(.int .i64 x.2.2.2.1),(.bool x.2.2.2.2.1),(slK (kInt .u32) x.2.2.2.2.2.1),(.int .i64 x.2.2.2.2.2.2)]))])) ?_ ?_
      ·rintro ⟨y212,y213,y214,y215,y216,y217,y218⟩
       dsimp only [bess_J_j2]
       refine .g 15 rfl<|?_
       refine .cut (fun x:Int × Bool × (List Int) × Int × Bool × (List Int) × Int × Bool × (List Int) × Int × Bool × (List Int) × Int=>(bess_J_j3 x184 a2 x.1 x.2.1 x.2.2.1 x.2.2.2.1 x.2.2.2.2.1 x.2.2.2.2.2.1 x.2.2.2.2.2.2.1 x.2.2.2.2.2.2.2.1 x.2.2.2.2.2.2.2.2.1 x.2.2.2.2.2.2.2.2.2.1 x.2.2.2.2.2.2.2.2.2.2.1 x.2.2.2.2.2.2.2.2.2.2.2.1 x.2.2.2.2.2.2.2.2.2.2.2.2,[eI 2 a2,eP 6 1,eP 10 3,eP 15 6,eP 17 0],[(1,(.live 35 [(.bool false),(slK (kInt .u32) []),(.int .i64 0),(.bool false),(slK (kInt .u32) []),(.int .i64 0)])),(3,(.live 29 [(.ptr 2 0)])),(2,(.live 45 [(.int .i64 x.1),(.int .i64 x184.2.2)])),(6,(.live 35 [(.bool x.2.1),(slK (kInt .u32) x.2.2.1),(.int .i64 x.2.2.2.1),(.bool x.2.2.2.2.1),(slK (kInt .u32) x.2.2.2.2.2.1),(.int .i64 x.2.2.2.2.2.2.1)])),(0,(.live 35 [(.bool x.2.2.2.2.2.2.2.1),(slK (kInt .u32) x.2.2.2.2.2.2.2.2.1),(.int .i64 x.2.2.2.2.2.2.2.2.2.1),(.bool x.2.2.2.2.2.2.2.2.2.2.1),(slK (kInt .u32) x.2.2.2.2.2.2.2.2.2.2.2.1),(.int .i64 x.2.2.2.2.2.2.2.2.2.2.2.2)]))])) ?_ ?_
       ·rintro ⟨y265,y266,y267,y268,y269,y270,y271,y272,y273,y274,y275,y276,y277⟩
        dsimp only [bess_J_j3]
        refine .g 5 rfl<|.p0 rfl rfl fun x278 _=>.g 9 rfl<|.p0 rfl rfl fun x279 _=>.g 8 rfl<|.p0 rfl rfl fun x280 _=>.g 3 rfl<|?_
        refine .cut (fun x:Bool × (List Int) × Int=>(bess_J_j4 y272 y273 y274 y275 y276 y277 y265 x184 a2 x.1 x.2.1 x.2.2,[eI 2 a2,eP 6 1,eP 10 3,eP 17 0,eP 19 4],[(1,(.live 35 [(.bool false),(slK (kInt .u32) []),(.int .i64 0),(.bool false),(slK (kInt .u32) []),(.int .i64 0)])),(3,(.live 29 [(.ptr 2 0)])),(2,(.live 45 [(.int .i64 y265),(.int .i64 x184.2.2)])),(0,(.live 35 [(.bool y272),(slK (kInt .u32) y273),(.int .i64 y274),(.bool y275),(slK (kInt .u32) y276),(.int .i64 y277)])),(4,(.live 26 [(.bool x.1),(slK (kInt .u32) x.2.1),(.int .i64 x.2.2)]))])) ?_ ?_
        ·rintro ⟨y281,y282,y283⟩
         dsimp only [bess_J_j4]
         refine .g 6 rfl<|.bind fun x284 h58=>.st rfl (cl (CC.h h58) [2] [] [true] rfl (.p rfl<|.a kI<|.a kApiDy<|.nil) (.p rfl (.i<|.i<|.nil) .nil) fnil (.cons (.v (.i<|.i<|.nil)) .nil) (ren_agg (K:=kI) _) (.turned .nil) rfl) rfl<|.g 9 rfl<|.bind fun x285 h59=>.st rfl (cl (CC.h h59) [2] [] [false] rfl (.p rfl<|.nil) (.p rfl (.i<|.i<|.nil) .nil) fnil (.cons (.v (.i<|.i<|.nil)) .nil) (.int _ _) (.kept rfl .nil) rfl) rfl<|.g 9 rfl<|?_
         refine .cd rfl (fun _ _=>?_) fun _ _=>?_
         ·refine .g 10 rfl<|.fi rfl rfl
         ·refine .g 5 rfl<|.bind fun x286 h62=>?_
          rcases x286 with x287 | x288
          ·dsimp only
           refine .st rfl (cl (iv_New_k_0 h62) [] [5] [true] rfl (.i<|.nil) .nil (fresh_cons rfl fnil) (.cons .dead .nil) (ren_tupL (.cons .nilptr<|.i<|.nil)) (.turned .nil) rfl) rfl<|.g 11 rfl<|.no
          ·dsimp only
           refine .st rfl (cl (iv_New_k_1 h62) [] [5] [true] rfl (.i<|.nil) .nil (fresh_cons rfl fnil) (.cons (.v (.i<|.i<|.nil)) .nil) (ren_tupL (.p rfl<|.i<|.nil)) (.turned .nil) rfl) rfl<|.g 11 rfl<|.bind fun x289 h63=>.st rfl (cl (CC.h h63) [5] [] [true] rfl (.p rfl<|.a kI<|.nil) (.p rfl (.i<|.i<|.nil) .nil) fnil (.cons (.v (.i<|.i<|.nil)) .nil) (ren_agg (K:=kI) _) (.turned .nil) rfl) rfl<|.g 10 rfl<|.bind fun x290 h64=>.st rfl (cl (CC.h h64) [5] [] [false] rfl (.p rfl<|.nil) (.p rfl (.i<|.i<|.nil) .nil) fnil (.cons (.v (.i<|.i<|.nil)) .nil) (.int _ _) (.kept rfl .nil) rfl) rfl<|.g 2 rfl<|.dn (by kernel_rfl)<|.g 2 rfl<|.fi rfl rfl
        ·intro h65
         refine .cd rfl (fun _ _=>?_) fun _ _=>?_
         ·refine .g 4 rfl<|.jw (h65 (((x279).M).Neg,((x279).M).Mag,(x279).E)) [(1,1),(3,3),(2,2),(0,0),(4,4)] rfl
         ·refine .g 1 rfl<|.jw (h65 (((x278).M).Neg,((x278).M).Mag,(x278).E)) [(1,1),(3,3),(2,2),(0,0),(4,4)] rfl
       ·intro h68
        refine .g 1 rfl<|?_
        refine .lp (fun n (x:Int × Int × Bool × (List Int) × Int × Bool × (List Int) × Int × Bool × (List Int) × Int × Bool × (List Int) × Int)=>bess_J_l5 x181 x188 a0 x184 a2 n x.1 x.2.1 x.2.2.1 x.2.2.2.1 x.2.2.2.2.1 x.2.2.2.2.2.1 x.2.2.2.2.2.2.1 x.2.2.2.2.2.2.2.1 x.2.2.2.2.2.2.2.2.1 x.2.2.2.2.2.2.2.2.2.1 x.2.2.2.2.2.2.2.2.2.2.1 x.2.2.2.2.2.2.2.2.2.2.2.1 x.2.2.2.2.2.2.2.2.2.2.2.2.1 x.2.2.2.2.2.2.2.2.2.2.2.2.2) (fun x=>([eI 0 a0,eI 2 a2,eP 6 1,eP 10 3,eP 13 5,(14,some (.fn 33 [] [(.ptr 3 0)])),eP 15 6,eP 17 0,eI 82 x181.1,eI 83 x.1],[(1,(.live 35 [(.bool false),(slK (kInt .u32) []),(.int .i64 0),(.bool false),(slK (kInt .u32) []),(.int .i64 0)])),(3,(.live 29 [(.ptr 2 0)])),(2,(.live 45 [(.int .i64 x.2.1),(.int .i64 x184.2.2)])),(5,(.live 35 [(.bool ((((x188.1).Lo).M).Neg)),(slK (kInt .u32) ((((x188.1).Lo).M).Mag)),(.int .i64 (((x188.1).Lo).E)),(.bool ((((x188.1).Hi).M).Neg)),(slK (kInt .u32) ((((x188.1).Hi).M).Mag)),(.int .i64 (((x188.1).Hi).E))])),(6,(.live 35 [(.bool x.2.2.1),(slK (kInt .u32) x.2.2.2.1),(.int .i64 x.2.2.2.2.1),(.bool x.2.2.2.2.2.1),(slK (kInt .u32) x.2.2.2.2.2.2.1),(.int .i64 x.2.2.2.2.2.2.2.1)])),(0,(.live 35 [(.bool x.2.2.2.2.2.2.2.2.1),(slK (kInt .u32) x.2.2.2.2.2.2.2.2.2.1),(.int .i64 x.2.2.2.2.2.2.2.2.2.2.1),(.bool x.2.2.2.2.2.2.2.2.2.2.2.1),(slK (kInt .u32) x.2.2.2.2.2.2.2.2.2.2.2.2.1),(.int .i64 x.2.2.2.2.2.2.2.2.2.2.2.2.2)]))])) (0,y212,y213,y214,y215,y216,y217,y218,y213,y214,y215,y216,y217,y218) [(1,1),(3,3),(2,2),(5,5),(6,6),(0,0)] rfl ?_
        rintro n5 ⟨y317,y318,y319,y320,y321,y322,y323,y324,y325,y326,y327,y328,y329,y330⟩
        try dsimp only
        rw [bess_J_l5]
        refine .g 6 rfl<|?_
        refine .cd rfl (fun _ _=>?_) fun _ _=>?_
        ·refine .g 23 rfl<|.bind fun x334 h90=>.st rfl (cl (CC.h h90) [3,2] [] [false,true] rfl (.a kI<|.a kI<|.i<|.p rfl<|.nil) (.p rfl (.p rfl<|.nil) (.p rfl (.i<|.i<|.nil) .nil)) fnil (.cons (.v (.p rfl<|.nil)) (.cons (.v (.i<|.i<|.nil)) .nil)) (ren_agg (K:=kI) _) (.kept rfl (.turned .nil)) rfl) rfl<|.bind fun x335 h91=>.st rfl (cl (CC.h h91) [2] [] [true] rfl (.p rfl<|.a kI<|.nil) (.p rfl (.i<|.i<|.nil) .nil) fnil (.cons (.v (.i<|.i<|.nil)) .nil) (ren_agg (K:=kI) _) (.turned .nil) rfl) rfl<|.g 1 rfl<|.dn (by kernel_rfl)<|.g 5 rfl<|.bind fun x336 h92=>.st rfl (cl (CC.h h92) [2] [] [true] rfl (.p rfl<|.a kI<|.a kI<|.nil) (.p rfl (.i<|.i<|.nil) .nil) fnil (.cons (.v (.i<|.i<|.nil)) .nil) (ren_agg (K:=kI) _) (.turned .nil) rfl) rfl<|.g 8 rfl<|.ag ((IntKind.i64.wrap (y317+1)),x336.2,(((x335.1).Lo).M).Neg,(((x335.1).Lo).M).Mag,((x335.1).Lo).E,(((x335.1).Hi).M).Neg,(((x335.1).Hi).M).Mag,((x335.1).Hi).E,(((x336.1).Lo).M).Neg,(((x336.1).Lo).M).Mag,((x336.1).Lo).E,(((x336.1).Hi).M).Neg,(((x336.1).Hi).M).Mag,((x336.1).Hi).E) [(1,1),(3,3),(2,2),(5,5),(6,6),(0,0)] rfl
        ·refine .g 4 rfl<|.jw (h68 (y318,y319,y320,y321,y322,y323,y324,y325,y326,y327,y328,y329,y330)) [(1,1),(3,3),(2,2),(6,6),(0,0)] rfl
      ·intro h93
       refine .g 1 rfl<|?_
       refine .lp (fun n (x:Int × Int × Bool × (List Int) × Int × Bool × (List Int) × Int)=>bess_J_l6 a0 x187 x184 x181 x188 a2 n x.1 x.2.1 x.2.2.1 x.2.2.2.1 x.2.2.2.2.1 x.2.2.2.2.2.1 x.2.2.2.2.2.2.1 x.2.2.2.2.2.2.2) (fun x=>([eI 0 a0,eI 2 a2,eP 6 1,eI 8 x181.1,eP 10 3,eP 12 4,eP 13 5,(14,some (.fn 33 [] [(.ptr 3 0)])),eP 15 6,eI 70 a0,eI 71 x.1],[(1,(.live 35 [(.bool false),(slK (kInt .u32) []),(.int .i64 0),(.bool false),(slK (kInt .u32) []),(.int .i64 0)])),(3,(.live 29 [(.ptr 2 0)])),(2,(.live 45 [(.int .i64 x.2.1),(.int .i64 x184.2.2)])),(4,(.live 35 [(.bool ((((x187.1).Lo).M).Neg)),(slK (kInt .u32) ((((x187.1).Lo).M).Mag)),(.int .i64 (((x187.1).Lo).E)),(.bool ((((x187.1).Hi).M).Neg)),(slK (kInt .u32) ((((x187.1).Hi).M).Mag)),(.int .i64 (((x187.1).Hi).E))])),(5,(.live 35 [(.bool ((((x188.1).Lo).M).Neg)),(slK (kInt .u32) ((((x188.1).Lo).M).Mag)),(.int .i64 (((x188.1).Lo).E)),(.bool ((((x188.1).Hi).M).Neg)),(slK (kInt .u32) ((((x188.1).Hi).M).Mag)),(.int .i64 (((x188.1).Hi).E))])),(6,(.live 35 [(.bool x.2.2.1),(slK (kInt .u32) x.2.2.2.1),(.int .i64 x.2.2.2.2.1),(.bool x.2.2.2.2.2.1),(slK (kInt .u32) x.2.2.2.2.2.2.1),(.int .i64 x.2.2.2.2.2.2.2)]))])) (0,x189.2,(((x189.1).Lo).M).Neg,(((x189.1).Lo).M).Mag,((x189.1).Lo).E,(((x189.1).Hi).M).Neg,(((x189.1).Hi).M).Mag,((x189.1).Hi).E) [(1,1),(3,3),(2,2),(4,4),(5,5),(6,6)] rfl ?_
       rintro n6 ⟨y349,y350,y351,y352,y353,y354,y355,y356⟩
       try dsimp only
       rw [bess_J_l6]
       refine .g 6 rfl<|?_
       refine .cd rfl (fun _ _=>?_) fun _ _=>?_
       ·refine .g 16 rfl<|.bind fun x358 h105=>.st rfl (cl (CC.h h105) [3,2] [] [false,true] rfl (.a kI<|.a kI<|.i<|.p rfl<|.nil) (.p rfl (.p rfl<|.nil) (.p rfl (.i<|.i<|.nil) .nil)) fnil (.cons (.v (.p rfl<|.nil)) (.cons (.v (.i<|.i<|.nil)) .nil)) (ren_agg (K:=kI) _) (.kept rfl (.turned .nil)) rfl) rfl<|.g 8 rfl<|.ag ((IntKind.i64.wrap (y349+1)),x358.2,(((x358.1).Lo).M).Neg,(((x358.1).Lo).M).Mag,((x358.1).Lo).E,(((x358.1).Hi).M).Neg,(((x358.1).Hi).M).Mag,((x358.1).Hi).E) [(1,1),(3,3),(2,2),(4,4),(5,5),(6,6)] rfl
       ·refine .g 4 rfl<|.jw (h93 (y350,y351,y352,y353,y354,y355,y356)) [(1,1),(3,3),(2,2),(5,5),(6,6)] rfl
 ·intro h106
  refine .g 4 rfl<|?_
  refine .gd 27 rfl (fun _=>?_) fun _=>?_
  ·refine .g 4 rfl<|.jw (h106 true) [(0,0),(1,1)] rfl
  ·refine .g 4 rfl<|.jw (h106 (decide (a0>64))) [(0,0),(1,1)] rfl
instance r01_Trim_i (a0:List Int):PC (r01_Trim a0) Tryz.prog 68 [(slK (kInt .u32) a0)] (fun r=>(slK (kInt .u32) r)):=pc func68 (by kernel_rfl) rfl fun E=>by
 unfold r01_Trim
 refine .g 8 rfl<|.ln rfl rfl<|.g 4 rfl<|?_
 refine .cut (fun x:Int=>(r01_Trim_j1 a0 x,[eL 0 a0,eI 3 x],[])) ?_ ?_
 ·rintro y17
  dsimp only [r01_Trim_j1]
  refine .g 11 rfl<|.guard fun h19=>.sv (slK (kInt .u32) (a0.take y17.toNat)) [] rfl (snd_sliceK (kInt .u32) _ _ _ _ _ _ 0 y17 rfl underlying22 si58 rfl rfl rfl rfl rfl h19) rfl<|.guard fun h20=>.sv (grA (kInt .u32) 0 (a0.take y17.toNat)) [(0,(grV (kInt .u32) 58 (a0.take y17.toNat)))] rfl (snd_appendK_nil0 (kInt .u32) _ _ _ _ _ 0 (a0.take y17.toNat) rfl underlying22 ze58 sb58 rfl rfl rfl rfl rfl h20) rfl<|.g 4 rfl<|?_
  refine .weak ?_ (fun a w h=>Conc.gr_still (kInt .u32) h 2 0 58 (a0.take y17.toNat) rfl rfl)
  exact .fi rfl rfl
 ·intro h21
  refine .g 1 rfl<|?_
  refine .lp (fun n (x:Int)=>r01_Trim_l2 a0 n x) (fun x=>([eL 0 a0,eI 3 x],[])) (a0.length:Int) [] rfl ?_
  rintro n2 y21
  try dsimp only
  rw [r01_Trim_l2]
  refine .g 2 rfl<|?_
  refine .cut (fun x:Bool=>(r01_Trim_j3 (fun z0=>r01_Trim_l2 a0 n2 z0) y21 a0 x,[eL 0 a0,eI 3 y21,eB 16 x],[])) ?_ ?_
  ·rintro y22
   dsimp only [r01_Trim_j3]
   refine .g 1 rfl<|?_
   refine .cd rfl (fun _ _=>?_) fun _ _=>?_
   ·refine .g 9 rfl<|.ag (IntKind.i64.wrap (y21-1)) [] rfl
   ·refine .g 4 rfl<|.jw (h21 y21) [] rfl
  ·intro h38
   refine .g 4 rfl<|?_
   refine .gd 9 rfl (fun _=>?_) fun _=>?_
   ·refine .g 3 rfl<|.ix rfl rfl<|.g 4 rfl<|.jw (h38 ((a0.getD ((IntKind.i64.wrap (y21-1)).toNat) (kInt .u32).z) == 0)) [] rfl
   ·refine .g 8 rfl<|.jw (h38 false) [] rfl
instance r01_From_i (a0:Int):PC (r01_From a0) Tryz.prog 92 [(.int .u64 a0)] (fun r=>(slK (kInt .u32) r)):=pc func92 (by kernel_rfl) rfl fun E=>by
 unfold r01_From
 refine .g 2 rfl<|.st rfl (as0 rfl) rfl<|.g 9 rfl<|.st rfl (bs (kInt .u32) [(IntKind.u32.wrap a0),(IntKind.u32.wrap (shrI .u64 a0 32))] rfl rfl) rfl<|.p0 rfl rfl fun x2 _=>.g 4 rfl<|.fi rfl rfl
instance r04_Make_i (a0:Bool) (a1:List Int):PC (r04_Make a0 a1) Tryz.prog 31 [(.bool a0),(slK (kInt .u32) a1)] (fun r=>(.agg (kN.enc (r)))):=pc func31 (by kernel_rfl) rfl fun E=>by
 unfold r04_Make
 refine .g 8 rfl<|.p0 rfl rfl fun x3 _=>.g 4 rfl<|?_
 refine .cut (fun x:Bool=>(r04_Make_j1 x3 x,[eP 4 0],[(0,(.live 24 [(.bool x),(slK (kInt .u32) x3)]))])) ?_ ?_
 ·rintro y4
  dsimp only [r04_Make_j1]
  refine .g 2 rfl<|.fi rfl rfl
 ·intro h3
  refine .g 3 rfl<|?_
  refine .gd 9 rfl (fun _=>?_) fun _=>?_
  ·refine .g 1 rfl<|.ln rfl rfl<|.g 6 rfl<|.jw (h3 (decide ((x3.length:Int)>0))) [(0,0)] rfl
  ·refine .g 8 rfl<|.jw (h3 false) [(0,0)] rfl
instance r04_From_i (a0:Int):PC (r04_From a0) Tryz.prog 63 [(.int .i64 a0)] (fun r=>(.agg (kN.enc (r)))):=pc func63 (by kernel_rfl) rfl fun E=>by
 unfold r04_From
 refine .g 12 rfl<|?_
 refine .cd rfl (fun _ _=>?_) fun _ _=>?_
 ·refine .g 7 rfl<|.p0 rfl rfl fun x5 _=>.p0 rfl rfl fun x6 _=>.g 5 rfl<|.fi rfl rfl
 ·refine .g 6 rfl<|.p0 rfl rfl fun x7 _=>.p0 rfl rfl fun x8 _=>.g 4 rfl<|.fi rfl rfl
instance r01_Bit_i (a0:List Int) (a1:Int):PC (r01_Bit a0 a1) Tryz.prog 90 [(slK (kInt .u32) a0),(.int .i64 a1)] (fun r=>(.bool r)):=pc func90 (by kernel_rfl) rfl fun E=>by
 unfold r01_Bit
 refine .g 7 rfl<|?_
 refine .cut (fun x:Bool=>(r01_Bit_j1 a1 a0 x,[eL 0 a0,eI 1 a1,eB 13 x],[])) ?_ ?_
 ·rintro y2
  dsimp only [r01_Bit_j1]
  refine .g 1 rfl<|?_
  refine .cd rfl (fun _ _=>?_) fun _ _=>?_
  ·refine .g 7 rfl<|.fi rfl rfl
  ·refine .g 7 rfl<|.ix rfl rfl<|.g 3 rfl<|.guard fun h5=>.st rfl (snd_shr _ _ _ _ _ _ _ _ rfl rfl rfl rfl rfl h5) rfl<|.g 6 rfl<|.fi rfl rfl
 ·intro h6
  refine .g 4 rfl<|?_
  refine .gd 7 rfl (fun _=>?_) fun _=>?_
  ·refine .g 7 rfl<|.jw (h6 true) [] rfl
  ·refine .g 3 rfl<|.ln rfl rfl<|.g 3 rfl<|.jw (h6 (decide ((IntKind.i64.wrap (a1.tdiv 32))≥(a0.length:Int)))) [] rfl
instance r01_at_i (a0:List Int) (a1:Int):PC (r01_at a0 a1) Tryz.prog 111 [(slK (kInt .u32) a0),(.int .i64 a1)] (fun r=>(.int .u64 r)):=pc func111 (by kernel_rfl) rfl fun E=>by
 unfold r01_at
 refine .g 10 rfl<|.ln rfl rfl<|.g 3 rfl<|?_
 refine .cd rfl (fun _ _=>?_) fun _ _=>?_
 ·refine .g 7 rfl<|.fi rfl rfl
 ·refine .g 6 rfl<|.ix rfl rfl<|.g 6 rfl<|.fi rfl rfl
instance r01_Shr_i (a0:List Int) (a1:Int):PC (r01_Shr a0 a1) Tryz.prog 91 [(slK (kInt .u32) a0),(.int .i64 a1)] (fun r=>(slK (kInt .u32) r)):=pc func91 (by kernel_rfl) rfl fun E=>by
 unfold r01_Shr
 refine .g 12 rfl<|?_
 refine .cd rfl (fun _ _=>?_) fun _ _=>?_
 ·refine .g 3 rfl<|.p0 rfl rfl fun x36 _=>.g 5 rfl<|.fi rfl rfl
 ·refine .g 8 rfl<|.ln rfl rfl<|.g 3 rfl<|?_
  refine .cd rfl (fun _ _=>?_) fun _ _=>?_
  ·refine .g 7 rfl<|.fj rfl rfl AVle.nil
  ·refine .g 15 rfl<|?_
   refine .cut (fun x:(List Int)=>(r01_Shr_j1 x,[(5,some (grA (kInt .u32) 0 x))],[(0,(grV (kInt .u32) 58 x))])) ?_ ?_
   ·rintro y53
    dsimp only [r01_Shr_j1]
    refine .g 2 rfl<|?_
    refine .weak ?_ (fun a w h=>Conc.gr_still (kInt .u32) h 5 0 58 y53 rfl rfl)
    refine .g 2 rfl<|.p0 rfl rfl fun x54 _=>.g 4 rfl<|.fi rfl rfl
   ·intro h37
    refine .g 1 rfl<|?_
    refine .weak ?_ (fun a w h=>Conc.gr_nil (kInt .u32) h 5 0 58 rfl)
    refine .lo (fun n (x:Int × (List Int))=>r01_Shr_l2 a0 a1 n x.1 x.2) (fun x=>([eL 0 a0,eI 1 a1,(5,some (grA (kInt .u32) 0 x.2)),eI 6 x.1],[(0,(grV (kInt .u32) 58 x.2))])) ((IntKind.i64.wrap (a1.tdiv 32)),[]) rfl (fun hE=>jn (m:=0) [(0,0)] hE (.l rfl<|.i rfl<|.g rfl (ren_gr (K:=(kInt .u32)) (by rfl) [])<|.i rfl<|.nil) (.cons (.refl _) (renV_gr (K:=(kInt .u32)) 58 [])<|.nil) rfl) ?_
    rintro n2 ⟨y65,y66⟩
    try dsimp only
    rw [r01_Shr_l2]
    refine .g 5 rfl<|.ln rfl rfl<|.g 3 rfl<|?_
    refine .cd rfl (fun _ _=>?_) fun _ _=>?_
    ·refine .g 8 rfl<|.p0 rfl rfl fun x69 _=>.g 3 rfl<|.p0 rfl rfl fun x70 _=>.g 10 rfl<|.guard fun h66=>.st rfl (snd_shr _ _ _ _ _ _ _ _ rfl rfl rfl rfl rfl h66) rfl<|.g 1 rfl<|.st rfl (bs (kInt .u32) [(IntKind.u32.wrap (shrI .u64 (orI .u64 x69 (shlI .u64 x70 32)) (a1.tmod 32)))] rfl rfl) rfl<|.guard fun h67=>.sv (.row 1 (kInt .u32).sz 0 (((y66++[(IntKind.u32.wrap (shrI .u64 (orI .u64 x69 (shlI .u64 x70 32)) (a1.tmod 32)))])).length)) [(1,(rwK (kInt .u32) 58 (y66++[(IntKind.u32.wrap (shrI .u64 (orI .u64 x69 (shlI .u64 x70 32)) (a1.tmod 32)))]))),(0,.dead)] rfl (snd_appendK_gr (kInt .u32) _ _ _ _ _ 0 1 y66 [(IntKind.u32.wrap (shrI .u64 (orI .u64 x69 (shlI .u64 x70 32)) (a1.tmod 32)))] rfl underlying22 ze58 sb58 rfl rfl rfl rfl rfl rfl rfl h67) rfl<|.g 9 rfl<|?_
     refine .weak ?_ (fun a w h=>Conc.gr_row (kInt .u32) h 5 1 58 (y66++[(IntKind.u32.wrap (shrI .u64 (orI .u64 x69 (shlI .u64 x70 32)) (a1.tmod 32)))]) rfl rfl (by first | omega | (simp only [List.length_append,List.length_cons,List.length_set]; omega) | simp))
     exact .ao ((IntKind.i64.wrap (y65+1)),(y66++[(IntKind.u32.wrap (shrI .u64 (orI .u64 x69 (shlI .u64 x70 32)) (a1.tmod 32)))])) rfl fun hE=>jn (m:=0) [(1,0)] hE (.l rfl<|.i rfl<|.g rfl (ren_gr (K:=(kInt .u32)) (by rfl) (y66++[(IntKind.u32.wrap (shrI .u64 (orI .u64 x69 (shlI .u64 x70 32)) (a1.tmod 32)))]))<|.i rfl<|.nil) (.cons (.refl _) (renV_gr (K:=(kInt .u32)) 58 (y66++[(IntKind.u32.wrap (shrI .u64 (orI .u64 x69 (shlI .u64 x70 32)) (a1.tmod 32)))]))<|.nil) rfl
    ·refine .g 4 rfl<|.jo (h37 y66) rfl fun hE=>jn (m:=0) [(0,0)] hE (.g rfl (ren_gr (K:=(kInt .u32)) (by rfl) y66)<|.nil) (.cons (.refl _) (renV_gr (K:=(kInt .u32)) 58 y66)<|.nil) rfl
instance r05_norm_i (a0:ApiInt) (a1:Int):PC (r05_norm a0 a1) Tryz.prog 62 [(.agg (kN.enc a0)),(.int .i64 a1)] (fun r=>(.agg (kApiDy.enc (⟨((r).M),(r).E⟩:AD)))):=pc func62 (by kernel_rfl) rfl fun E=>by
 unfold r05_norm
 refine .g 12 rfl<|.p0 rfl rfl fun x15 _=>.g 9 rfl<|.ln rfl rfl<|.g 3 rfl<|?_
 refine .cd rfl (fun _ _=>?_) fun _ _=>?_
 ·refine .g 8 rfl<|.fi rfl rfl
 ·refine .g 8 rfl<|?_
  refine .cut (fun x:Int=>(r05_norm_j1 x15 a1 x,[eI 1 a1,eP 4 1,eP 5 2,eI 6 x],[(1,(.live 26 [(.bool false),(slK (kInt .u32) []),(.int .i64 0)])),(2,(.live 24 [(.bool ((x15).Neg)),(slK (kInt .u32) ((x15).Mag))]))])) ?_ ?_
  ·rintro y21
   dsimp only [r05_norm_j1]
   refine .g 8 rfl<|.p0 rfl rfl fun x22 _=>.p0 rfl rfl fun x23 _=>.g 5 rfl<|.dn (by kernel_rfl)<|.g 2 rfl<|.fi rfl rfl
  ·intro h15
   refine .g 1 rfl<|?_
   refine .lp (fun n (x:Int)=>r05_norm_l2 x15 a1 n x) (fun x=>([eI 1 a1,eP 4 1,eP 5 2,eI 6 x],[(1,(.live 26 [(.bool false),(slK (kInt .u32) []),(.int .i64 0)])),(2,(.live 24 [(.bool ((x15).Neg)),(slK (kInt .u32) ((x15).Mag))]))])) 0 [(1,1),(2,2)] rfl ?_
   rintro n2 y27
   try dsimp only
   rw [r05_norm_l2]
   refine .g 6 rfl<|.p0 rfl rfl fun x28 _=>.g 3 rfl<|?_
   refine .cd rfl (fun _ _=>?_) fun _ _=>?_
   ·refine .g 9 rfl<|.ag (IntKind.i64.wrap (y27+1)) [(1,1),(2,2)] rfl
   ·refine .g 4 rfl<|.jw (h15 y27) [(1,1),(2,2)] rfl
instance r05_From_i (a0:Int):PC (r05_From a0) Tryz.prog 28 [(.int .i64 a0)] (fun r=>(.agg (kApiDy.enc (⟨((r).M),(r).E⟩:AD)))):=pc func28 (by kernel_rfl) rfl fun E=>by
 unfold r05_From
 refine .g 8 rfl<|.p0 rfl rfl fun x3 _=>.p0 rfl rfl fun x4 _=>.g 4 rfl<|.fi rfl rfl
instance r04_Right_i (a0:ApiInt):PC (r04_Right a0) Tryz.prog 93 [(.agg (kN.enc a0))] (fun r=>(.bool r)):=pc func93 (by kernel_rfl) rfl fun E=>by
 unfold r04_Right
 refine .g 10 rfl<|.ln rfl rfl<|.g 4 rfl<|?_
 refine .cut (fun x:Bool=>(r04_Right_j1 x,[eB 2 x],[])) ?_ ?_
 ·rintro y2
  dsimp only [r04_Right_j1]
  refine .g 2 rfl<|.fi rfl rfl
 ·intro h7
  refine .g 4 rfl<|?_
  refine .gd 9 rfl (fun _=>?_) fun _=>?_
  ·refine .g 5 rfl<|?_
   refine .gd 14 rfl (fun _=>?_) fun _=>?_
   ·refine .g 14 rfl<|.jw (h7 true) [] rfl
   ·refine .g 3 rfl<|?_
    refine .gd 17 rfl (fun _=>?_) fun _=>?_
    ·refine .g 4 rfl<|.ix rfl rfl<|.g 6 rfl<|.jw (h7 ((a0.Mag.getD ((IntKind.i64.wrap ((a0.Mag.length:Int)-1)).toNat) (kInt .u32).z) != 0)) [] rfl
    ·refine .g 11 rfl<|.jw (h7 false) [] rfl
  ·refine .g 8 rfl<|?_
   refine .gd 17 rfl (fun _=>?_) fun _=>?_
   ·refine .g 4 rfl<|.ix rfl rfl<|.g 6 rfl<|.jw (h7 ((a0.Mag.getD ((IntKind.i64.wrap ((a0.Mag.length:Int)-1)).toNat) (kInt .u32).z) != 0)) [] rfl
   ·refine .g 11 rfl<|.jw (h7 false) [] rfl
instance r05_Right_i (a0:AD):PC (r05_Right a0) Tryz.prog 65 [(.agg (kApiDy.enc a0))] (fun r=>(.bool r)):=pc func65 (by kernel_rfl) rfl fun E=>by
 unfold r05_Right
 refine .g 10 rfl<|.p0 rfl rfl fun x3 _=>.g 10 rfl<|?_
 refine .cd rfl (fun _ _=>?_) fun _ _=>?_
 ·refine .g 7 rfl<|.fi rfl rfl
 ·refine .g 8 rfl<|.ln rfl rfl<|.g 3 rfl<|?_
  refine .cd rfl (fun _ _=>?_) fun _ _=>?_
  ·refine .g 10 rfl<|.fi rfl rfl
  ·refine .g 3 rfl<|?_
   refine .cut (fun x:Bool=>(r05_Right_j1 x,[eB 2 x],[])) ?_ ?_
   ·rintro y4
    dsimp only [r05_Right_j1]
    refine .g 2 rfl<|.fi rfl rfl
   ·intro h9
    refine .g 4 rfl<|.ix rfl rfl<|.g 4 rfl<|?_
    refine .gd 24 rfl (fun _=>?_) fun _=>?_
    ·refine .g 5 rfl<|?_
     refine .gd 29 rfl (fun _=>?_) fun _=>?_
     ·refine .g 6 rfl<|.jw (h9 (decide (a0.E≤131072))) [] rfl
     ·refine .g 6 rfl<|.jw (h9 false) [] rfl
    ·refine .g 11 rfl<|.jw (h9 false) [] rfl
instance r01_Cmp_i (a0:List Int) (a1:List Int):PC (r01_Cmp a0 a1) Tryz.prog 112 [(slK (kInt .u32) a0),(slK (kInt .u32) a1)] (fun r=>(.int .i64 r)):=pc func112 (by kernel_rfl) rfl fun E=>by
 unfold r01_Cmp
 refine .g 9 rfl<|.ln rfl rfl<|.g 1 rfl<|.ln rfl rfl<|.g 5 rfl<|?_
 refine .cut (fun x:Unit=>(r01_Cmp_j1,[],[])) ?_ ?_
 ·rintro _
  dsimp only [r01_Cmp_j1]
  refine .g 7 rfl<|.fi rfl rfl
 ·intro h55
  refine .g 1 rfl<|?_
  refine .lp (fun n (x:Int)=>r01_Cmp_l2 a0 a1 n x) (fun x=>([eL 0 a0,eL 1 a1,eI 5 x],[])) (IntKind.i64.wrap ((mx (a0.length:Int) (a1.length:Int))-1)) [] rfl ?_
  rintro n2 y96
  try dsimp only
  rw [r01_Cmp_l2]
  refine .g 7 rfl<|?_
  refine .cd rfl (fun _ _=>?_) fun _ _=>?_
  ·refine .g 9 rfl<|.p0 rfl rfl fun x101 _=>.g 2 rfl<|.p0 rfl rfl fun x102 _=>.g 3 rfl<|?_
   refine .cd rfl (fun _ _=>?_) fun _ _=>?_
   ·refine .g 12 rfl<|.fi rfl rfl
   ·refine .g 6 rfl<|.p0 rfl rfl fun x103 _=>.g 2 rfl<|.p0 rfl rfl fun x104 _=>.g 3 rfl<|?_
    refine .cd rfl (fun _ _=>?_) fun _ _=>?_
    ·refine .g 11 rfl<|.fi rfl rfl
    ·refine .g 8 rfl<|.ag (IntKind.i64.wrap (y96-1)) [] rfl
  ·refine .g 4 rfl<|.jw (h55 ()) [] rfl
instance r04_Cmp_i (a0:ApiInt) (a1:ApiInt):PC (r04_Cmp a0 a1) Tryz.prog 94 [(.agg (kN.enc a0)),(.agg (kN.enc a1))] (fun r=>(.int .i64 r)):=pc func94 (by kernel_rfl) rfl fun E=>by
 unfold r04_Cmp
 refine .g 13 rfl<|.p0 rfl rfl fun x10 _=>.g 10 rfl<|.p0 rfl rfl fun x11 _=>.g 7 rfl<|?_
 refine .cut (fun x:Bool=>(r04_Cmp_j1 x10 x11 x,[eP 5 2,eP 6 3,eB 17 x],[(2,(.live 24 [(.bool ((x10).Neg)),(slK (kInt .u32) ((x10).Mag))])),(3,(.live 24 [(.bool ((x11).Neg)),(slK (kInt .u32) ((x11).Mag))]))])) ?_ ?_
 ·rintro y15
  dsimp only [r04_Cmp_j1]
  refine .g 1 rfl<|?_
  refine .cd rfl (fun _ _=>?_) fun _ _=>?_
  ·refine .g 8 rfl<|.fi rfl rfl
  ·refine .g 1 rfl<|?_
   refine .cut (fun x:Bool=>(r04_Cmp_j2 x10 x11 x,[eP 5 2,eP 6 3,eB 25 x],[(2,(.live 24 [(.bool ((x10).Neg)),(slK (kInt .u32) ((x10).Mag))])),(3,(.live 24 [(.bool ((x11).Neg)),(slK (kInt .u32) ((x11).Mag))]))])) ?_ ?_
   ·rintro y16
    dsimp only [r04_Cmp_j2]
    refine .g 1 rfl<|?_
    refine .cd rfl (fun _ _=>?_) fun _ _=>?_
    ·refine .g 8 rfl<|.fi rfl rfl
    ·refine .g 7 rfl<|?_
     refine .cd rfl (fun _ _=>?_) fun _ _=>?_
     ·refine .g 6 rfl<|.p0 rfl rfl fun x17 _=>.g 6 rfl<|.fi rfl rfl
     ·refine .g 9 rfl<|.p0 rfl rfl fun x18 _=>.g 4 rfl<|.fi rfl rfl
   ·intro h24
    refine .g 5 rfl<|?_
    refine .gd 29 rfl (fun _=>?_) fun _=>?_
    ·refine .g 5 rfl<|.jw (h24 (x11).Neg) [(2,2),(3,3)] rfl
    ·refine .g 5 rfl<|.jw (h24 false) [(2,2),(3,3)] rfl
 ·intro h26
  refine .g 4 rfl<|?_
  refine .gd 20 rfl (fun _=>?_) fun _=>?_
  ·refine .g 6 rfl<|.jw (h26 (!((x11).Neg))) [(2,2),(3,3)] rfl
  ·refine .g 6 rfl<|.jw (h26 false) [(2,2),(3,3)] rfl
instance r01_Bits_i (a0:List Int):PC (r01_Bits a0) Tryz.prog 97 [(slK (kInt .u32) a0)] (fun r=>(.int .i64 r)):=pc func97 (by kernel_rfl) rfl fun E=>by
 unfold r01_Bits
 refine .g 8 rfl<|.p0 rfl rfl fun x11 _=>.g 7 rfl<|.ln rfl rfl<|.g 3 rfl<|?_
 refine .cd rfl (fun _ _=>?_) fun _ _=>?_
 ·refine .g 7 rfl<|.fi rfl rfl
 ·refine .g 5 rfl<|.ln rfl rfl<|.g 10 rfl<|.ln rfl rfl<|.g 1 rfl<|.ix rfl rfl<|.g 4 rfl<|?_
  refine .cut (fun x:Int=>(r01_Bits_j1 x,[eI 4 x],[])) ?_ ?_
  ·rintro y16
   dsimp only [r01_Bits_j1]
   refine .g 8 rfl<|.fi rfl rfl
  ·intro h11
   refine .g 1 rfl<|?_
   refine .lp (fun n (x:Int × Int)=>r01_Bits_l2 n x.1 x.2) (fun x=>([eI 4 x.1,eW 5 x.2],[])) ((IntKind.i64.wrap (32*(IntKind.i64.wrap ((x11.length:Int)-1)))),(x11.getD ((IntKind.i64.wrap ((x11.length:Int)-1)).toNat) (kInt .u32).z)) [] rfl ?_
   rintro n2 ⟨y19,y20⟩
   try dsimp only
   rw [r01_Bits_l2]
   refine .g 7 rfl<|?_
   refine .cd rfl (fun _ _=>?_) fun _ _=>?_
   ·refine .g 16 rfl<|.ag ((IntKind.i64.wrap (y19+1)),(shrI .u32 y20 1)) [] rfl
   ·refine .g 4 rfl<|.jw (h11 y19) [] rfl
instance r05_size_i (a0:AD):PC (r05_size a0) Tryz.prog 95 [(.agg (kApiDy.enc a0))] (fun r=>(.int .i64 r)):=pc func95 (by kernel_rfl) rfl fun E=>by
 unfold r05_size
 refine .g 13 rfl<|.p0 rfl rfl fun x2 _=>.g 2 rfl<|.dn (by kernel_rfl)<|.g 2 rfl<|.fi rfl rfl
instance r01_Shl_i (a0:List Int) (a1:Int):PC (r01_Shl a0 a1) Tryz.prog 119 [(slK (kInt .u32) a0),(.int .i64 a1)] (fun r=>(.tup [(slK (kInt .u32) r.1),(.bool r.2)])):=pc func119 (by kernel_rfl) rfl fun E=>by
 unfold r01_Shl
 refine .g 8 rfl<|?_
 refine .cut (fun x:Bool=>(r01_Shl_j1 a1 a0 x,[eL 0 a0,eI 1 a1,eB 15 x],[])) ?_ ?_
 ·rintro y17
  dsimp only [r01_Shl_j1]
  refine .g 1 rfl<|?_
  refine .cd rfl (fun _ _=>?_) fun _ _=>?_
  ·refine .g 8 rfl<|.fj rfl rfl (.tup (.cons AVle.nil (.cons (AVle.refl _) .nil)))
  ·refine .g 6 rfl<|.guard fun h4=>.sv (.row 0 (kInt .u32).sz 0 (((List.replicate ((IntKind.i64.wrap (a1.tdiv 32)).toNat) (kInt .u32).z)).length)) [(0,(rwK (kInt .u32) 58 (List.replicate ((IntKind.i64.wrap (a1.tdiv 32)).toNat) (kInt .u32).z)))] rfl (snd_makeK (kInt .u32) _ _ _ _ _ 0 _ _ _ rfl underlying22 ze58 sb58 (by decide) rfl rfl rfl rfl rfl h4) rfl<|.g 14 rfl<|?_
   refine .cut (fun x:Int × (List Int)=>(r01_Shl_j2 x.1 x.2,[(6,some (.row 0 (kInt .u32).sz 0 ((x.2).length))),eX 7 x.1],[(0,(rwK (kInt .u32) 58 x.2))])) ?_ ?_
   ·rintro ⟨y24,y25⟩
    dsimp only [r01_Shl_j2]
    refine .g 6 rfl<|.st rfl (bs (kInt .u32) [(IntKind.u32.wrap y24)] rfl rfl) rfl<|.guard fun h29=>.sv (.row 1 (kInt .u32).sz 0 (((y25++[(IntKind.u32.wrap y24)])).length)) [(1,(rwK (kInt .u32) 58 (y25++[(IntKind.u32.wrap y24)]))),(0,.dead)] rfl (snd_appendK (kInt .u32) _ _ _ _ _ 0 1 y25 [(IntKind.u32.wrap y24)] rfl underlying22 ze58 sb58 rfl rfl rfl rfl rfl rfl h29) rfl<|?_
    refine .weak ?_ (fun a w h=>Conc.freezeK (kInt .u32) h 46 1 0 (((y25++[(IntKind.u32.wrap y24)])).length) 58 (y25++[(IntKind.u32.wrap y24)]) rfl rfl (by omega))
    refine .weak ?_ (fun a w h=>take_all h)
    refine .p0 rfl rfl fun x26 _=>.g 5 rfl<|.fi rfl rfl
   ·intro h31
    refine .g 1 rfl<|?_
    refine .lp (fun n (x:Int × Int × (List Int))=>r01_Shl_l3 a0 a1 n x.1 x.2.1 x.2.2) (fun x=>([eL 0 a0,eI 1 a1,(6,some (.row 0 (kInt .u32).sz 0 ((x.2.2).length))),eX 7 x.1,eI 8 x.2.1],[(0,(rwK (kInt .u32) 58 x.2.2))])) (0,0,(List.replicate ((IntKind.i64.wrap (a1.tdiv 32)).toNat) (kInt .u32).z)) [(0,0)] rfl ?_
    rintro n3 ⟨y30,y31,y32⟩
    try dsimp only
    rw [r01_Shl_l3]
    refine .g 5 rfl<|.ln rfl rfl<|.g 3 rfl<|?_
    refine .cd rfl (fun _ _=>?_) fun _ _=>?_
    ·refine .g 8 rfl<|.ix rfl rfl<|.g 4 rfl<|.guard fun h54=>.st rfl (snd_shl _ _ _ _ _ _ _ _ rfl rfl rfl rfl rfl h54) rfl<|.g 10 rfl<|.st rfl (bs (kInt .u32) [(IntKind.u32.wrap (orI .u64 (shlI .u64 (IntKind.u64.wrap (a0.getD y31.toNat (kInt .u32).z)) (a1.tmod 32)) y30))] rfl rfl) rfl<|.guard fun h55=>.sv (.row 1 (kInt .u32).sz 0 (((y32++[(IntKind.u32.wrap (orI .u64 (shlI .u64 (IntKind.u64.wrap (a0.getD y31.toNat (kInt .u32).z)) (a1.tmod 32)) y30))])).length)) [(1,(rwK (kInt .u32) 58 (y32++[(IntKind.u32.wrap (orI .u64 (shlI .u64 (IntKind.u64.wrap (a0.getD y31.toNat (kInt .u32).z)) (a1.tmod 32)) y30))]))),(0,.dead)] rfl (snd_appendK (kInt .u32) _ _ _ _ _ 0 1 y32 [(IntKind.u32.wrap (orI .u64 (shlI .u64 (IntKind.u64.wrap (a0.getD y31.toNat (kInt .u32).z)) (a1.tmod 32)) y30))] rfl underlying22 ze58 sb58 rfl rfl rfl rfl rfl rfl h55) rfl<|.g 15 rfl<|.ag ((shrI .u64 (orI .u64 (shlI .u64 (IntKind.u64.wrap (a0.getD y31.toNat (kInt .u32).z)) (a1.tmod 32)) y30) 32),(IntKind.i64.wrap (y31+1)),(y32++[(IntKind.u32.wrap (orI .u64 (shlI .u64 (IntKind.u64.wrap (a0.getD y31.toNat (kInt .u32).z)) (a1.tmod 32)) y30))])) [(1,0)] rfl
    ·refine .g 4 rfl<|.jw (h31 (y30,y32)) [(0,0)] rfl
 ·intro h56
  refine .g 4 rfl<|?_
  refine .gd 12 rfl (fun _=>?_) fun _=>?_
  ·refine .g 4 rfl<|.jw (h56 true) [] rfl
  ·refine .g 4 rfl<|.jw (h56 (decide (a1>100000))) [] rfl
instance r05_up_i (a0:ApiInt) (a1:Int):PC (r05_up a0 a1) Tryz.prog 113 [(.agg (kN.enc a0)),(.int .i64 a1)] (fun r=>(.agg (kN.enc (r)))):=pc func113 (by kernel_rfl) rfl fun E=>by
 unfold r05_up
 refine .g 14 rfl<|?_
 refine .cut (fun x:(List Int)=>(r05_up_j1 a0 x,[eP 2 0,eP 4 1,eL 5 x],[(0,(.live 24 [(.bool a0.Neg),(slK (kInt .u32) a0.Mag)])),(1,(.live 24 [(.bool false),(slK (kInt .u32) [])]))])) ?_ ?_
 ·rintro y33
  dsimp only [r05_up_j1]
  refine .g 6 rfl<|.p0 rfl rfl fun x34 _=>.g 4 rfl<|.fi rfl rfl
 ·intro h14
  refine .g 1 rfl<|?_
  refine .lp (fun n (x:Int × (List Int))=>r05_up_l2 a0 n x.1 x.2) (fun x=>([eI 1 x.1,eP 2 0,eP 4 1,eL 5 x.2],[(0,(.live 24 [(.bool a0.Neg),(slK (kInt .u32) a0.Mag)])),(1,(.live 24 [(.bool false),(slK (kInt .u32) [])]))])) (a1,a0.Mag) [(0,0),(1,1)] rfl ?_
  rintro n2 ⟨y41,y42⟩
  try dsimp only
  rw [r05_up_l2]
  refine .g 7 rfl<|?_
  refine .cd rfl (fun _ _=>?_) fun _ _=>?_
  ·refine .g 14 rfl<|.p0 rfl rfl fun x44 _=>.g 13 rfl<|.ag ((IntKind.i64.wrap (y41-(mn y41 100000))),x44.1) [(0,0),(1,1)] rfl
  ·refine .g 4 rfl<|.jw (h14 y42) [(0,0),(1,1)] rfl
instance r05_lift_i (a0:AD) (a1:AD):PC (r05_lift a0 a1) Tryz.prog 96 [(.agg (kApiDy.enc a0)),(.agg (kApiDy.enc a1))] (fun r=>(.tup [(.agg (kN.enc (r.1))),(.agg (kN.enc (r.2.1))),(.int .i64 r.2.2)])):=pc func96 (by kernel_rfl) rfl fun E=>by
 unfold r05_lift
 refine .g 16 rfl<|.ln rfl rfl<|.g 4 rfl<|?_
 refine .cd rfl (fun _ _=>?_) fun _ _=>?_
 ·refine .g 10 rfl<|.dn (by kernel_rfl)<|.g 4 rfl<|.fi rfl rfl
 ·refine .g 5 rfl<|.ln rfl rfl<|.g 4 rfl<|?_
  refine .cd rfl (fun _ _=>?_) fun _ _=>?_
  ·refine .g 10 rfl<|.dn (by kernel_rfl)<|.g 4 rfl<|.fi rfl rfl
  ·refine .g 10 rfl<|?_
   refine .cd rfl (fun _ _=>?_) fun _ _=>?_
   ·refine .g 9 rfl<|.p0 rfl rfl fun x5 _=>.g 7 rfl<|.dn (by kernel_rfl)<|.g 4 rfl<|.fi rfl rfl
   ·refine .g 14 rfl<|.p0 rfl rfl fun x6 _=>.g 5 rfl<|.dn (by kernel_rfl)<|.g 2 rfl<|.fi rfl rfl
instance r05_Cmp_i (a0:AD) (a1:AD):PC (r05_Cmp a0 a1) Tryz.prog 66 [(.agg (kApiDy.enc a0)),(.agg (kApiDy.enc a1))] (fun r=>(.int .i64 r)):=pc func66 (by kernel_rfl) rfl fun E=>by
 unfold r05_Cmp
 refine .g 10 rfl<|.p0 rfl rfl fun x12 _=>.g 6 rfl<|.p0 rfl rfl fun x13 _=>.g 5 rfl<|?_
 refine .cut (fun x:Bool=>(r05_Cmp_j1 a0 a1 x,[eP 2 0,eP 3 1,eB 19 x],[(0,(.live 26 [(.bool a0.M.Neg),(slK (kInt .u32) a0.M.Mag),(.int .i64 a0.E)])),(1,(.live 26 [(.bool a1.M.Neg),(slK (kInt .u32) a1.M.Mag),(.int .i64 a1.E)]))])) ?_ ?_
 ·rintro y14
  dsimp only [r05_Cmp_j1]
  refine .g 1 rfl<|?_
  refine .cd rfl (fun _ _=>?_) fun _ _=>?_
  ·refine .g 7 rfl<|.fi rfl rfl
  ·refine .g 4 rfl<|?_
   refine .cut (fun x:Bool=>(r05_Cmp_j2 a0 a1 x,[eP 2 0,eP 3 1,eB 40 x],[(0,(.live 26 [(.bool a0.M.Neg),(slK (kInt .u32) a0.M.Mag),(.int .i64 a0.E)])),(1,(.live 26 [(.bool a1.M.Neg),(slK (kInt .u32) a1.M.Mag),(.int .i64 a1.E)]))])) ?_ ?_
   ·rintro y15
    dsimp only [r05_Cmp_j2]
    refine .g 1 rfl<|?_
    refine .cd rfl (fun _ _=>?_) fun _ _=>?_
    ·refine .g 6 rfl<|.p0 rfl rfl fun x16 _=>.g 5 rfl<|.fi rfl rfl
    ·refine .g 6 rfl<|.p0 rfl rfl fun x17 _=>.g 1 rfl<|.p0 rfl rfl fun x18 _=>.g 1 rfl<|.dn (by kernel_rfl)<|.g 1 rfl<|?_
     refine .cd rfl (fun _ _=>?_) fun _ _=>?_
     ·refine .g 4 rfl<|.p0 rfl rfl fun x19 _=>.g 1 rfl<|.p0 rfl rfl fun x20 _=>.g 5 rfl<|.dn (by kernel_rfl)<|.g 1 rfl<|?_
      refine .cd rfl (fun _ _=>?_) fun _ _=>?_
      ·refine .g 8 rfl<|.fi rfl rfl
      ·refine .g 9 rfl<|.fi rfl rfl
     ·refine .g 6 rfl<|.p0 rfl rfl fun x21 _=>.g 15 rfl<|.p0 rfl rfl fun x22 _=>.g 4 rfl<|.fi rfl rfl
   ·intro h21
    refine .g 9 rfl<|?_
    refine .gd 27 rfl (fun _=>?_) fun _=>?_
    ·refine .g 14 rfl<|.jw (h21 true) [(0,0),(1,1)] rfl
    ·refine .g 3 rfl<|.ln rfl rfl<|.g 3 rfl<|?_
     refine .gd 34 rfl (fun _=>?_) fun _=>?_
     ·refine .g 7 rfl<|.jw (h21 true) [(0,0),(1,1)] rfl
     ·refine .g 3 rfl<|.ln rfl rfl<|.g 3 rfl<|.jw (h21 ((a1.M.Mag.length:Int) == 0)) [(0,0),(1,1)] rfl
 ·intro h24
  refine .g 4 rfl<|?_
  refine .gd 16 rfl (fun _=>?_) fun _=>?_
  ·refine .g 4 rfl<|.jw (h24 true) [(0,0),(1,1)] rfl
  ·refine .g 4 rfl<|.jw (h24 (!x13)) [(0,0),(1,1)] rfl
instance r06_Right_i (a0:AI):PC (r06_Right a0) Tryz.prog 64 [(.agg (kI.enc a0))] (fun r=>(.bool r)):=pc func64 (by kernel_rfl) rfl fun E=>by
 unfold r06_Right
 refine .g 10 rfl<|.p0 rfl rfl fun x6 _=>.g 7 rfl<|.p0 rfl rfl fun x7 _=>.g 4 rfl<|?_
 refine .cut (fun x:Bool=>(r06_Right_j1 x,[eB 2 x],[])) ?_ ?_
 ·rintro y9
  dsimp only [r06_Right_j1]
  refine .g 2 rfl<|.fi rfl rfl
 ·intro h6
  refine .g 3 rfl<|?_
  refine .gd 12 rfl (fun _=>?_) fun _=>?_
  ·refine .g 3 rfl<|?_
   refine .gd 15 rfl (fun _=>?_) fun _=>?_
   ·refine .g 4 rfl<|.p0 rfl rfl fun x10 _=>.g 4 rfl<|.jw (h6 (decide (x10≤0))) [] rfl
   ·refine .g 9 rfl<|.jw (h6 false) [] rfl
  ·refine .g 12 rfl<|.jw (h6 false) [] rfl
instance r06_Has_i (a0:AI) (a1:AD):PC (r06_Has a0 a1) Tryz.prog 29 [(.agg (kI.enc a0)),(.agg (kApiDy.enc a1))] (fun r=>(.bool r)):=pc func29 (by kernel_rfl) rfl fun E=>by
 unfold r06_Has
 refine .g 10 rfl<|.p0 rfl rfl fun x8 _=>.g 6 rfl<|.p0 rfl rfl fun x9 _=>.g 4 rfl<|?_
 refine .cut (fun x:Bool=>(r06_Has_j1 x,[eB 4 x],[])) ?_ ?_
 ·rintro y12
  dsimp only [r06_Has_j1]
  refine .g 2 rfl<|.fi rfl rfl
 ·intro h8
  refine .g 3 rfl<|?_
  refine .gd 12 rfl (fun _=>?_) fun _=>?_
  ·refine .g 3 rfl<|?_
   refine .gd 15 rfl (fun _=>?_) fun _=>?_
   ·refine .g 3 rfl<|.p0 rfl rfl fun x13 _=>.g 3 rfl<|?_
    refine .gd 22 rfl (fun _=>?_) fun _=>?_
    ·refine .g 3 rfl<|.p0 rfl rfl fun x14 _=>.g 4 rfl<|.jw (h8 (decide (x14≤0))) [] rfl
    ·refine .g 8 rfl<|.jw (h8 false) [] rfl
   ·refine .g 15 rfl<|.jw (h8 false) [] rfl
  ·refine .g 18 rfl<|.jw (h8 false) [] rfl
instance l13_examples_i:PC (l13_examples) Tryz.prog 6 [] (fun r=>(.bool r)):=pc func6 (by kernel_rfl) rfl fun E=>by
 unfold l13_examples
 refine .g 8 rfl<|.p0 rfl rfl fun x11 _=>.g 10 rfl<|.p0 rfl rfl fun x12 _=>.p0 rfl rfl fun x13 _=>.g 10 rfl<|.p0 rfl rfl fun x14 _=>.p0 rfl rfl fun x15 _=>.g 9 rfl<|?_
 refine .cut (fun x:Bool=>(l13_examples_j1 x,[eB 0 x],[])) ?_ ?_
 ·rintro y18
  dsimp only [l13_examples_j1]
  refine .g 2 rfl<|.fi rfl rfl
 ·intro h11
  refine .g 4 rfl<|?_
  refine .gd 24 rfl (fun _=>?_) fun _=>?_
  ·refine .g 1 rfl<|.p0 rfl rfl fun x19 _=>.p0 rfl rfl fun x20 _=>.g 2 rfl<|?_
   refine .gd 29 rfl (fun _=>?_) fun _=>?_
   ·refine .g 4 rfl<|?_
    refine .gd 33 rfl (fun _=>?_) fun _=>?_
    ·refine .g 4 rfl<|.dn (by kernel_rfl)<|.jw (h11 (x15.2 == 4)) [] rfl
    ·refine .g 4 rfl<|.dn (by kernel_rfl)<|.jw (h11 false) [] rfl
   ·refine .g 8 rfl<|.dn (by kernel_rfl)<|.jw (h11 false) [] rfl
  ·refine .g 13 rfl<|.dn (by kernel_rfl)<|.jw (h11 false) [] rfl
instance l13_prec_i (a0:Int):PC (l13_prec a0) Tryz.prog 7 [(.int .i64 a0)] (fun r=>(.int .i64 r)):=pc func7 (by kernel_rfl) rfl fun E=>by
 unfold l13_prec
 refine .g 12 rfl<|?_
 refine .cut (fun x:Int=>(l13_prec_j1 x,[eI 0 x],[])) ?_ ?_
 ·rintro y2
  dsimp only [l13_prec_j1]
  refine .g 10 rfl<|.fi rfl rfl
 ·intro h3
  refine .cd rfl (fun _ _=>?_) fun _ _=>?_
  ·refine .g 6 rfl<|.jw (h3 (IntKind.i64.wrap (0-(IntKind.i64.wrap (a0+1))))) [] rfl
  ·refine .g 1 rfl<|.jw (h3 a0) [] rfl
instance r05_inRange_i (a0:AD):PC (r05_inRange a0) Tryz.prog 67 [(.agg (kApiDy.enc a0))] (fun r=>(.bool r)):=pc func67 (by kernel_rfl) rfl fun E=>by
 unfold r05_inRange
 refine .g 12 rfl<|.ln rfl rfl<|.g 3 rfl<|?_
 refine .cd rfl (fun _ _=>?_) fun _ _=>?_
 ·refine .g 7 rfl<|.fi rfl rfl
 ·refine .g 5 rfl<|.p0 rfl rfl fun x5 _=>.g 4 rfl<|?_
  refine .cut (fun x:Bool=>(r05_inRange_j1 x,[eB 2 x],[])) ?_ ?_
  ·rintro y7
   dsimp only [r05_inRange_j1]
   refine .g 2 rfl<|.fi rfl rfl
  ·intro h9
   refine .g 4 rfl<|?_
   refine .gd 13 rfl (fun _=>?_) fun _=>?_
   ·refine .g 4 rfl<|?_
    refine .gd 17 rfl (fun _=>?_) fun _=>?_
    ·refine .g 5 rfl<|?_
     refine .gd 22 rfl (fun _=>?_) fun _=>?_
     ·refine .g 5 rfl<|?_
      refine .gd 27 rfl (fun _=>?_) fun _=>?_
      ·refine .g 3 rfl<|.p0 rfl rfl fun x8 _=>.g 4 rfl<|.jw (h9 (decide (x8≤262144))) [] rfl
      ·refine .g 8 rfl<|.jw (h9 false) [] rfl
     ·refine .g 13 rfl<|.jw (h9 false) [] rfl
    ·refine .g 18 rfl<|.jw (h9 false) [] rfl
   ·refine .g 22 rfl<|.jw (h9 false) [] rfl
instance r05_Make_i (a0:ApiInt) (a1:Int):PC (r05_Make a0 a1) Tryz.prog 30 [(.agg (kN.enc a0)),(.int .i64 a1)] (fun r=>(.tup [(.agg (kApiDy.enc (⟨((r.1).M),(r.1).E⟩:AD))),(.bool r.2)])):=pc func30 (by kernel_rfl) rfl fun E=>by
 unfold r05_Make
 refine .g 9 rfl<|?_
 refine .cut (fun x:Bool=>(r05_Make_j1 a0 a1 x,[eI 1 a1,eP 2 0,eP 4 1,eB 13 x],[(0,(.live 24 [(.bool a0.Neg),(slK (kInt .u32) a0.Mag)])),(1,(.live 26 [(.bool false),(slK (kInt .u32) []),(.int .i64 0)]))])) ?_ ?_
 ·rintro y4
  dsimp only [r05_Make_j1]
  refine .g 1 rfl<|?_
  refine .cd rfl (fun _ _=>?_) fun _ _=>?_
  ·refine .g 9 rfl<|.fi rfl rfl
  ·refine .g 6 rfl<|.p0 rfl rfl fun x5 _=>.g 7 rfl<|.p0 rfl rfl fun x6 _=>.g 10 rfl<|?_
   refine .cd rfl (fun _ _=>?_) fun _ _=>?_
   ·refine .g 9 rfl<|.fi rfl rfl
   ·refine .g 10 rfl<|.fi rfl rfl
 ·intro h8
  refine .g 4 rfl<|?_
  refine .gd 10 rfl (fun _=>?_) fun _=>?_
  ·refine .g 4 rfl<|.jw (h8 true) [(0,0),(1,1)] rfl
  ·refine .g 4 rfl<|.jw (h8 (decide (a1>100000))) [(0,0),(1,1)] rfl
instance l13_place_i (a0:AD):PC (l13_place a0) Tryz.prog 9 [(.agg (kApiDy.enc a0))] (fun r=>(.agg (kApiDy.enc (⟨((r).M),(r).E⟩:AD)))):=pc func9 (by kernel_rfl) rfl fun E=>by
 unfold l13_place
 refine .g 17 rfl<|.ln rfl rfl<|.g 3 rfl<|?_
 refine .cut (fun x:Int=>(l13_place_j1 a0 x,[eP 1 0,eP 2 1,eW 3 x],[(0,(.live 26 [(.bool a0.M.Neg),(slK (kInt .u32) a0.M.Mag),(.int .i64 a0.E)])),(1,(.live 26 [(.bool false),(slK (kInt .u32) []),(.int .i64 0)]))])) ?_ ?_
 ·rintro y4
  dsimp only [l13_place_j1]
  refine .g 7 rfl<|.st rfl (bs (kInt .u32) [y4] rfl rfl) rfl<|.p0 rfl rfl fun x5 _=>.p0 rfl rfl fun x6 _=>.g 15 rfl<|.fi rfl rfl
 ·intro h6
  refine .cd rfl (fun _ _=>?_) fun _ _=>?_
  ·refine .g 4 rfl<|.ix rfl rfl<|.g 3 rfl<|.jw (h6 (a0.M.Mag.getD 0 (kInt .u32).z)) [(0,0),(1,1)] rfl
  ·refine .g 1 rfl<|.jw (h6 0) [(0,0),(1,1)] rfl
instance dyad_Make_i (a0:ApiInt) (a1:Int):PC (dyad_Make a0 a1) Tryz.prog 54 [(.agg (kN.enc a0)),(.int .i64 a1)] (fun r=>(.tup [(.agg (kApiDy.enc (⟨((r.1).M),(r.1).E⟩:AD))),(.bool r.2)])):=pc func54 (by kernel_rfl) rfl fun E=>by
 unfold dyad_Make
 refine .g 11 rfl<|.p0 rfl rfl fun x4 _=>.g 3 rfl<|?_
 refine .cd rfl (fun _ _=>?_) fun _ _=>?_
 ·refine .g 9 rfl<|.fi rfl rfl
 ·refine .g 9 rfl<|.p0 rfl rfl fun x5 _=>.g 8 rfl<|.p0 rfl rfl fun x6 _=>.g 3 rfl<|?_
  refine .cd rfl (fun _ _=>?_) fun _ _=>?_
  ·refine .g 9 rfl<|.fi rfl rfl
  ·refine .g 10 rfl<|.fi rfl rfl
instance dyad_Half_i (a0:Int):PC (dyad_Half a0) Tryz.prog 21 [(.int .i64 a0)] (fun r=>(.agg (kApiDy.enc (⟨((r).M),(r).E⟩:AD)))):=pc func21 (by kernel_rfl) rfl fun E=>by
 unfold dyad_Half
 refine .g 7 rfl<|.p0 rfl rfl fun x3 _=>.g 1 rfl<|.p0 rfl rfl fun x4 _=>.g 15 rfl<|.fi rfl rfl
instance l13_BessSum_i (a0:AD) (a1:Int):PC (l13_BessSum a0 a1) Tryz.prog 4 [(.agg (kApiDy.enc a0)),(.int .i64 a1)] (fun r=>(.bool r)):=pc func4 (by kernel_rfl) rfl fun E=>by
 unfold l13_BessSum
 refine .g 8 rfl<|.p0 rfl rfl fun x96 _=>.g 10 rfl<|?_
 refine .cd rfl (fun _ _=>?_) fun _ _=>?_
 ·refine .g 7 rfl<|.fi rfl rfl
 ·refine .g 5 rfl<|.p0 rfl rfl fun x97 _=>.g 7 rfl<|.bind fun x98 h5=>?_
  rcases x98 with x99 | x100
  ·dsimp only
   refine .st rfl (cl (iv_New_k_0 h5) [] [1] [true] rfl (.i<|.nil) .nil (fresh_cons rfl fnil) (.cons .dead .nil) (ren_tupL (.cons .nilptr<|.i<|.nil)) (.turned .nil) rfl) rfl<|.g 26 rfl<|.fi rfl rfl
  ·dsimp only
   refine .st rfl (cl (iv_New_k_1 h5) [] [1] [true] rfl (.i<|.nil) .nil (fresh_cons rfl fnil) (.cons (.v (.i<|.i<|.nil)) .nil) (ren_tupL (.p rfl<|.i<|.nil)) (.turned .nil) rfl) rfl<|.g 18 rfl<|?_
   refine .cd rfl (fun _ _=>?_) fun _ _=>?_
   ·refine .g 7 rfl<|.fi rfl rfl
   ·refine .g 5 rfl<|.p0 rfl rfl fun x101 _=>.g 7 rfl<|.p0 rfl rfl fun x102 _=>.g 11 rfl<|.p0 rfl rfl fun x103 _=>.g 10 rfl<|?_
    refine .cut (fun x:Bool=>(l13_BessSum_j1 x102 x97 x100 x96 x103 x,[eI 1 (mn x97 30),eB 5 x96,eP 6 1,eP 8 2,eP 10 3,eB 50 x],[(1,(.live 45 [(.int .i64 x100.2.1),(.int .i64 x100.2.2)])),(2,(.live 26 [(.bool (((x102.1).M).Neg)),(slK (kInt .u32) (((x102.1).M).Mag)),(.int .i64 ((x102.1).E))])),(3,(.live 35 [(.bool ((((x103.1).Lo).M).Neg)),(slK (kInt .u32) ((((x103.1).Lo).M).Mag)),(.int .i64 (((x103.1).Lo).E)),(.bool ((((x103.1).Hi).M).Neg)),(slK (kInt .u32) ((((x103.1).Hi).M).Mag)),(.int .i64 (((x103.1).Hi).E))]))])) ?_ ?_
    ·rintro y104
     dsimp only [l13_BessSum_j1]
     refine .g 1 rfl<|?_
     refine .cd rfl (fun _ _=>?_) fun _ _=>?_
     ·refine .g 7 rfl<|.fi rfl rfl
     ·refine .g 8 rfl<|?_
      refine .cut (fun x:Int × Bool × (List Int) × Int × Bool × (List Int) × Int=>(l13_BessSum_j2 x96 x100 x.1 x.2.1 x.2.2.1 x.2.2.2.1 x.2.2.2.2.1 x.2.2.2.2.2.1 x.2.2.2.2.2.2,[eB 5 x96,eP 6 1,eP 10 3],[(1,(.live 45 [(.int .i64 x.1),(.int .i64 x100.2.2)])),(3,(.live 35 [(.bool x.2.1),(slK (kInt .u32) x.2.2.1),(.int .i64 x.2.2.2.1),(.bool x.2.2.2.2.1),(slK (kInt .u32) x.2.2.2.2.2.1),(.int .i64 x.2.2.2.2.2.2)]))])) ?_ ?_
      ·rintro ⟨y139,y140,y141,y142,y143,y144,y145⟩
       dsimp only [l13_BessSum_j2]
       refine .g 2 rfl<|?_
       refine .cut (fun x:Bool=>(l13_BessSum_j3 x,[eB 4 x],[])) ?_ ?_
       ·rintro y151
        dsimp only [l13_BessSum_j3]
        refine .g 2 rfl<|.fi rfl rfl
       ·intro h55
        refine .g 3 rfl<|?_
        refine .gd 71 rfl (fun _=>?_) fun _=>?_
        ·refine .g 3 rfl<|.bind fun x152 h57=>.st rfl (cl (CC.h h57) [1] [] [false] rfl (.p rfl<|.nil) (.p rfl (.i<|.i<|.nil) .nil) fnil (.cons (.v (.i<|.i<|.nil)) .nil) (.int _ _) (.kept rfl .nil) rfl) rfl<|.g 3 rfl<|?_
         refine .gd 78 rfl (fun _=>?_) fun _=>?_
         ·refine .g 2 rfl<|.p0 rfl rfl fun x153 _=>.bind fun x154 h60=>.st rfl (cl (CC.h h60) [1] [] [true] rfl (.p rfl<|.a kI<|.a kApiDy<|.nil) (.p rfl (.i<|.i<|.nil) .nil) fnil (.cons (.v (.i<|.i<|.nil)) .nil) (ren_agg (K:=kI) _) (.turned .nil) rfl) rfl<|.p0 rfl rfl fun x155 _=>.p0 rfl rfl fun x156 _=>.g 2 rfl<|.dn (by kernel_rfl)<|.jw (h55 x156) [] rfl
         ·refine .g 8 rfl<|.dn (by kernel_rfl)<|.jw (h55 false) [] rfl
        ·refine .g 15 rfl<|.dn (by kernel_rfl)<|.jw (h55 false) [] rfl
      ·intro h63
       refine .g 1 rfl<|?_
       refine .lp (fun n (x:Int × Int × Bool × (List Int) × Int × Bool × (List Int) × Int)=>l13_BessSum_l4 x102 x97 x100 x96 n x.1 x.2.1 x.2.2.1 x.2.2.2.1 x.2.2.2.2.1 x.2.2.2.2.2.1 x.2.2.2.2.2.2.1 x.2.2.2.2.2.2.2) (fun x=>([eI 1 (mn x97 30),eB 5 x96,eP 6 1,eP 8 2,eP 10 3,eI 12 x.1],[(1,(.live 45 [(.int .i64 x.2.1),(.int .i64 x100.2.2)])),(2,(.live 26 [(.bool (((x102.1).M).Neg)),(slK (kInt .u32) (((x102.1).M).Mag)),(.int .i64 ((x102.1).E))])),(3,(.live 35 [(.bool x.2.2.1),(slK (kInt .u32) x.2.2.2.1),(.int .i64 x.2.2.2.2.1),(.bool x.2.2.2.2.2.1),(slK (kInt .u32) x.2.2.2.2.2.2.1),(.int .i64 x.2.2.2.2.2.2.2)]))])) (2,x100.2.1,(((x103.1).Lo).M).Neg,(((x103.1).Lo).M).Mag,((x103.1).Lo).E,(((x103.1).Hi).M).Neg,(((x103.1).Hi).M).Mag,((x103.1).Hi).E) [(1,1),(2,2),(3,3)] rfl ?_
       rintro n4 ⟨y177,y178,y179,y180,y181,y182,y183,y184⟩
       try dsimp only
       rw [l13_BessSum_l4]
       refine .g 7 rfl<|?_
       refine .cd rfl (fun _ _=>?_) fun _ _=>?_
       ·refine .g 9 rfl<|.p0 rfl rfl fun x188 _=>.g 15 rfl<|?_
        refine .cd rfl (fun _ _=>?_) fun _ _=>?_
        ·refine .g 12 rfl<|.fi rfl rfl
        ·refine .g 7 rfl<|.bind fun x189 h96=>.st rfl (cl (CC.h h96) [1] [] [true] rfl (.p rfl<|.a kI<|.i<|.nil) (.p rfl (.i<|.i<|.nil) .nil) fnil (.cons (.v (.i<|.i<|.nil)) .nil) (ren_agg (K:=kI) _) (.turned .nil) rfl) rfl<|.bind fun x190 h97=>.st rfl (cl (CC.h h97) [1] [] [true] rfl (.p rfl<|.a kI<|.a kI<|.nil) (.p rfl (.i<|.i<|.nil) .nil) fnil (.cons (.v (.i<|.i<|.nil)) .nil) (ren_agg (K:=kI) _) (.turned .nil) rfl) rfl<|.g 1 rfl<|.dn (by kernel_rfl)<|.g 7 rfl<|.ag ((IntKind.i64.wrap (y177+2)),x190.2,(((x190.1).Lo).M).Neg,(((x190.1).Lo).M).Mag,((x190.1).Lo).E,(((x190.1).Hi).M).Neg,(((x190.1).Hi).M).Mag,((x190.1).Hi).E) [(1,1),(2,2),(3,3)] rfl
       ·refine .g 4 rfl<|.jw (h63 (y178,y179,y180,y181,y182,y183,y184)) [(1,1),(3,3)] rfl
    ·intro h98
     refine .g 4 rfl<|?_
     refine .gd 47 rfl (fun _=>?_) fun _=>?_
     ·refine .g 4 rfl<|.jw (h98 true) [(1,1),(2,2),(3,3)] rfl
     ·refine .g 4 rfl<|.jw (h98 (x103.2 != 0)) [(1,1),(2,2),(3,3)] rfl
end Go.Proofs.YtpcdcpjjekkemaaGreat.Gen
