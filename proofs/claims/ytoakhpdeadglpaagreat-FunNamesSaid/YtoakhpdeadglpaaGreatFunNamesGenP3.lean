/- Printed by geng.py: a call does what the plain function says. -/
import Derived.Test.YtoakhpdeadglpaaGreatFunNamesGenP2
set_option linter.unusedVariables false
set_option linter.unusedSimpArgs false
set_option maxRecDepth 4000
set_option synthInstance.maxSize 4000
set_option synthInstance.maxHeartbeats 400000
namespace Go.Proofs.YtoakhpdeadglpaaGreat.Gen
open Go Go.Abs Go.Proofs Go.Proofs.Tryz
instance cv_four_6ec2_i (a0:AI) (a1:AI) (a2:Int) (a3:Int):CC (cv_four_6ec2 a0 a1 a2 a3) Tryz.prog 89 [(.ptr 0 0),(.agg (kI.enc a0)),(.agg (kI.enc a1)),(.fn 86 [] [])] [(.live 53 [(.int .i64 a2),(.int .i64 a3)])] (fun r=>(slK kD r.1)) (fun r=>[(.live 53 [(.int .i64 r.2),(.int .i64 a3)])]):=cc func89 (by kernel_rfl) rfl fun E=>by
 unfold cv_four_6ec2
 refine .g 13 rfl<|.st rfl (bs kD [a0.Lo,a0.Hi] rfl rfl) rfl<|.g 4 rfl<|.st rfl (bs kD [a1.Lo,a1.Hi] rfl rfl) rfl<|.g 2 rfl<|.dn (by kernel_rfl)<|.g 8 rfl<|.p0 rfl rfl fun x487 _=>.g 3 rfl<|?_
 refine .cut (fun x:(List AD)=>(cv_four_6ec2_j1 a1 a3 a2 x,[eP 0 0,(3,some (.fn 86 [] [])),eP 6 2,eK kD 9 x,eK kD 10 [a1.Lo,a1.Hi]],[(0,(.live 53 [(.int .i64 a2),(.int .i64 a3)])),(2,(.live 30 [(.bool a1.Lo.M.Neg),(slK (kInt .u32) a1.Lo.M.Mag),(.int .i64 a1.Lo.E),(.bool a1.Hi.M.Neg),(slK (kInt .u32) a1.Hi.M.Mag),(.int .i64 a1.Hi.E)]))])) ?_ ?_
 ·rintro y488
  dsimp only [cv_four_6ec2_j1]
  refine .g 8 rfl<|.p0 rfl rfl fun x489 _=>.g 3 rfl<|?_
  refine .cut (fun x:(List AD)=>(cv_four_6ec2_j2 y488 a3 a2 x,[eP 0 0,(3,some (.fn 86 [] [])),eK kD 9 y488,eK kD 10 x],[(0,(.live 53 [(.int .i64 a2),(.int .i64 a3)]))])) ?_ ?_
  ·rintro y490
   dsimp only [cv_four_6ec2_j2]
   refine .g 10 rfl<|.ln rfl rfl<|.g 3 rfl<|?_
   refine .cut (fun x:Int × (List AD)=>(cv_four_6ec2_j3 x.1 x.2,[(11,some (grA kD 1 x.2))],[(0,(.live 53 [(.int .i64 x.1),(.int .i64 a3)])),(1,(grV kD 26 x.2))])) ?_ ?_
   ·rintro ⟨y731,y732⟩
    dsimp only [cv_four_6ec2_j3]
    refine .g 8 rfl<|?_
    refine .weak ?_ (fun a w h=>Conc.gr_still kD h 8 1 26 y732 rfl rfl)
    exact .fi rfl rfl
   ·intro h381
    refine .g 1 rfl<|?_
    refine .weak ?_ (fun a w h=>Conc.gr_nil kD h 11 1 26 rfl)
    refine .lo (fun n (x:Int × Int × (List AD))=>cv_four_6ec2_l4 y488 y490 a3 n x.1 x.2.1 x.2.2) (fun x=>([eP 0 0,(3,some (.fn 86 [] [])),eK kD 10 y490,(11,some (grA kD 1 x.2.2)),eK kD 42 y488,eI 43 (y488.length:Int),eI 44 x.1],[(0,(.live 53 [(.int .i64 x.2.1),(.int .i64 a3)])),(1,(grV kD 26 x.2.2))])) (0,a2,[]) rfl (fun hE=>jn (m:=1) [(0,0),(1,1)] hE (.p rfl rfl<|.g rfl (ren_fnL _ .nil .nil)<|.l rfl<|.g rfl (ren_gr (K:=kD) (by rfl) [])<|.l rfl<|.i rfl<|.i rfl<|.nil) (.v rfl (.i<|.i<|.nil)<|.cons (.refl _) (renV_gr (K:=kD) 26 [])<|.nil) rfl) ?_
    rintro n4 ⟨y892,y893,y894⟩
    try dsimp only
    rw [cv_four_6ec2_l4]
    refine .g 6 rfl<|?_
    refine .cd rfl (fun _ _=>?_) fun _ _=>?_
    ·refine .g 3 rfl<|?_
     refine .cut (fun x:Int × (List AD)=>(cv_four_6ec2_j5 (fun z0 z1 z2=>cv_four_6ec2_l4 y488 y490 a3 n4 z0 z1 z2) y892 x.1 x.2,[eP 0 0,(3,some (.fn 86 [] [])),eK kD 10 y490,(11,some (grA kD 1 x.2)),eK kD 42 y488,eI 43 (y488.length:Int),eI 44 y892],[(0,(.live 53 [(.int .i64 x.1),(.int .i64 a3)])),(1,(grV kD 26 x.2))])) ?_ ?_
     ·rintro ⟨y933,y934⟩
      dsimp only [cv_four_6ec2_j5]
      refine .g 5 rfl<|.ao ((IntKind.i64.wrap (y892+1)),y933,y934) rfl fun hE=>jn (m:=1) [(0,0),(1,1)] hE (.p rfl rfl<|.g rfl (ren_fnL _ .nil .nil)<|.l rfl<|.g rfl (ren_gr (K:=kD) (by rfl) y934)<|.l rfl<|.i rfl<|.i rfl<|.nil) (.v rfl (.i<|.i<|.nil)<|.cons (.refl _) (renV_gr (K:=kD) 26 y934)<|.nil) rfl
     ·intro h693
      refine .g 3 rfl<|.ix rfl rfl<|.g 8 rfl<|.ln rfl rfl<|.g 3 rfl<|?_
      refine .cut (fun x:Int × (List AD)=>(cv_four_6ec2_j6 (fun z0 z1 z2=>cv_four_6ec2_l4 y488 y490 a3 n4 z0 z1 z2) y892 x.1 x.2,[eP 0 0,(3,some (.fn 86 [] [])),eK kD 10 y490,(11,some (grA kD 1 x.2)),eK kD 42 y488,eI 43 (y488.length:Int),eI 44 y892],[(0,(.live 53 [(.int .i64 x.1),(.int .i64 a3)])),(1,(grV kD 26 x.2))])) ?_ ?_
      ·rintro ⟨y953,y954⟩
       dsimp only [cv_four_6ec2_j6]
       refine .g 1 rfl<|.jo (h693 (y953,y954)) rfl fun hE=>jn (m:=1) [(0,0),(1,1)] hE (.p rfl rfl<|.g rfl (ren_fnL _ .nil .nil)<|.l rfl<|.g rfl (ren_gr (K:=kD) (by rfl) y954)<|.l rfl<|.i rfl<|.i rfl<|.nil) (.v rfl (.i<|.i<|.nil)<|.cons (.refl _) (renV_gr (K:=kD) 26 y954)<|.nil) rfl
      ·intro h725
       refine .g 1 rfl<|?_
       refine .lo (fun n (x:Int × Int × (List AD))=>cv_four_6ec2_l7 y490 y488 y892 a3 (fun z0 z1 z2=>cv_four_6ec2_l4 y488 y490 a3 n4 z0 z1 z2) n x.1 x.2.1 x.2.2) (fun x=>([eP 0 0,(3,some (.fn 86 [] [])),eK kD 10 y490,(11,some (grA kD 1 x.2.2)),eP 13 2,eK kD 42 y488,eI 43 (y488.length:Int),eI 44 y892,eK kD 48 y490,eI 49 (y490.length:Int),eI 50 x.1],[(0,(.live 53 [(.int .i64 x.2.1),(.int .i64 a3)])),(1,(grV kD 26 x.2.2)),(2,(.live 26 [(.bool (((y488.getD y892.toNat zAD).M).Neg)),(slK (kInt .u32) (((y488.getD y892.toNat zAD).M).Mag)),(.int .i64 ((y488.getD y892.toNat zAD).E))]))])) (0,y893,y894) rfl (fun hE=>jn (m:=1) [(0,0),(1,1),(2,2)] hE (.p rfl rfl<|.g rfl (ren_fnL _ .nil .nil)<|.l rfl<|.g rfl (ren_gr (K:=kD) (by rfl) y894)<|.p rfl rfl<|.l rfl<|.i rfl<|.i rfl<|.l rfl<|.i rfl<|.i rfl<|.nil) (.v rfl (.i<|.i<|.nil)<|.cons (.refl _) (renV_gr (K:=kD) 26 y894)<|.v rfl (.b<|.l<|.i<|.nil)<|.nil) rfl) ?_
       rintro n7 ⟨y966,y967,y968⟩
       try dsimp only
       rw [cv_four_6ec2_l7]
       refine .g 6 rfl<|?_
       refine .cd rfl (fun _ _=>?_) fun _ _=>?_
       ·refine .g 6 rfl<|.ix rfl rfl<|.g 11 rfl<|.p0 rfl rfl fun x971 _=>.g 2 rfl<|.bind fun x972 h754=>.st rfl (cl (CC.h h754) [0] [] [true] rfl (.p rfl<|.a kD<|.i<|.nil) (.p rfl (.i<|.i<|.nil) .nil) fnil (.cons (.v (.i<|.i<|.nil)) .nil) (ren_agg (K:=kD) _) (.turned .nil) rfl) rfl<|.st rfl (bs kD [(⟨((x972.1).M),(x972.1).E⟩:AD)] rfl rfl) rfl<|.guard fun h755=>.sv (.row 4 kD.sz 0 (((y968++[(⟨((x972.1).M),(x972.1).E⟩:AD)])).length)) [(4,(rwK kD 26 (y968++[(⟨((x972.1).M),(x972.1).E⟩:AD)]))),(1,.dead)] rfl (snd_appendK_gr kD _ _ _ _ _ 1 4 y968 [(⟨((x972.1).M),(x972.1).E⟩:AD)] rfl underlying67 ze26 sb26 rfl rfl rfl rfl rfl rfl rfl h755) rfl<|.g 8 rfl<|?_
        refine .weak ?_ (fun a w h=>Conc.gr_row kD h 11 4 26 (y968++[(⟨((x972.1).M),(x972.1).E⟩:AD)]) rfl rfl (by first | omega | (simp only [List.length_append,List.length_cons,List.length_set]; omega) | simp))
        exact .ao ((IntKind.i64.wrap (y966+1)),x972.2,(y968++[(⟨((x972.1).M),(x972.1).E⟩:AD)])) rfl fun hE=>jn (m:=1) [(0,0),(4,1),(2,2)] hE (.p rfl rfl<|.g rfl (ren_fnL _ .nil .nil)<|.l rfl<|.g rfl (ren_gr (K:=kD) (by rfl) (y968++[(⟨((x972.1).M),(x972.1).E⟩:AD)]))<|.p rfl rfl<|.l rfl<|.i rfl<|.i rfl<|.l rfl<|.i rfl<|.i rfl<|.nil) (.v rfl (.i<|.i<|.nil)<|.cons (.refl _) (renV_gr (K:=kD) 26 (y968++[(⟨((x972.1).M),(x972.1).E⟩:AD)]))<|.v rfl (.b<|.l<|.i<|.nil)<|.nil) rfl
       ·refine .g 4 rfl<|.jo (h725 (y967,y968)) rfl fun hE=>jn (m:=1) [(0,0),(1,1)] hE (.p rfl rfl<|.g rfl (ren_fnL _ .nil .nil)<|.l rfl<|.g rfl (ren_gr (K:=kD) (by rfl) y968)<|.l rfl<|.i rfl<|.i rfl<|.nil) (.v rfl (.i<|.i<|.nil)<|.cons (.refl _) (renV_gr (K:=kD) 26 y968)<|.nil) rfl
    ·refine .g 4 rfl<|.jo (h381 (y893,y894)) rfl fun hE=>jn (m:=1) [(0,0),(1,1)] hE (.g rfl (ren_gr (K:=kD) (by rfl) y894)<|.nil) (.v rfl (.i<|.i<|.nil)<|.cons (.refl _) (renV_gr (K:=kD) 26 y894)<|.nil) rfl
  ·intro h756
   refine .cd rfl (fun _ _=>?_) fun _ _=>?_
   ·refine .g 2 rfl<|.guard fun h759=>.sv (slK kD ([a1.Lo,a1.Hi].take 1)) [] rfl (snd_sliceK kD _ _ _ _ _ _ 0 1 rfl underlying67 si26 rfl rfl rfl rfl rfl h759) rfl<|.g 2 rfl<|.jw (h756 ([a1.Lo,a1.Hi].take 1)) [(0,0)] rfl
   ·refine .g 1 rfl<|.jw (h756 [a1.Lo,a1.Hi]) [(0,0)] rfl
 ·intro h760
  refine .cd rfl (fun _ _=>?_) fun _ _=>?_
  ·refine .g 2 rfl<|.guard fun h763=>.sv (slK kD ([a0.Lo,a0.Hi].take 1)) [] rfl (snd_sliceK kD _ _ _ _ _ _ 0 1 rfl underlying67 si26 rfl rfl rfl rfl rfl h763) rfl<|.g 2 rfl<|.jw (h760 ([a0.Lo,a0.Hi].take 1)) [(0,0),(2,2)] rfl
  ·refine .g 1 rfl<|.jw (h760 [a0.Lo,a0.Hi]) [(0,0),(2,2)] rfl
instance dyad_Round_i (a0:AD) (a1:Int) (a2:Bool):PC (dyad_Round a0 a1 a2) Tryz.prog 187 [(.agg (kD.enc a0)),(.int .i64 a1),(.bool a2)] (fun r=>(.tup [(.agg (kD.enc (⟨((r.1).M),(r.1).E⟩:AD))),(.int .i64 r.2)])):=pc func187 (by kernel_rfl) rfl fun E=>by
 unfold dyad_Round
 refine .g 16 rfl<|?_
 refine .cut (fun x:Bool × Int=>(dyad_Round_j1 a0 a1 a2 x.1 x.2,[eI 1 a1,eB 2 a2,eP 3 0,eP 6 1,eP 8 2,eB 19 x.1],[(0,(.live 26 [(.bool a0.M.Neg),(slK (kInt .u32) a0.M.Mag),(.int .i64 a0.E)])),(1,(.live 26 [(.bool false),(slK (kInt .u32) []),(.int .i64 0)])),(2,(.live 174 [(.int .i64 x.2),(.bool false),(slK (kInt .u32) []),(.int .i64 0)]))])) ?_ ?_
 ·rintro ⟨y15,y16⟩
  dsimp only [dyad_Round_j1]
  refine .g 1 rfl<|?_
  refine .cut (fun x:Bool × (List Int) × Int=>(dyad_Round_j2 y16 x.1 x.2.1 x.2.2,[eP 6 1,eP 8 2],[(1,(.live 26 [(.bool false),(slK (kInt .u32) []),(.int .i64 0)])),(2,(.live 174 [(.int .i64 y16),(.bool x.1),(slK (kInt .u32) x.2.1),(.int .i64 x.2.2)]))])) ?_ ?_
  ·rintro ⟨y18,y19,y20⟩
   dsimp only [dyad_Round_j2]
   refine .g 4 rfl<|.bind fun x21 h7=>.st rfl (cl (CC.h h7) [2] [] [true] rfl (.p rfl<|.nil) (.p rfl (.i<|.b<|.l<|.i<|.nil) .nil) fnil (.cons (.v (.i<|.b<|.l<|.i<|.nil)) .nil) (ren_tupL (.a kD<|.i<|.nil)) (.turned .nil) rfl) rfl<|.g 7 rfl<|.fi rfl rfl
  ·intro h8
   refine .cd rfl (fun _ _=>?_) fun _ _=>?_
   ·refine .g 16 rfl<|.bind fun x22 h11=>.st rfl (cl (CC.h h11) [2] [] [true] rfl (.p rfl<|.b<|.l<|.i<|.b<|.i<|.b<|.nil) (.p rfl (.i<|.b<|.l<|.i<|.nil) .nil) fnil (.cons (.v (.i<|.b<|.l<|.i<|.nil)) .nil) (ren_tupL .nil) (.turned .nil) rfl) rfl<|.g 1 rfl<|.jw (h8 (x22.1,x22.2.1,x22.2.2)) [(1,1),(2,2)] rfl
   ·refine .g 1 rfl<|.jw (h8 (false,[],0)) [(1,1),(2,2)] rfl
 ·intro h12
  refine .g 3 rfl<|.st rfl (bs kD [a0] rfl rfl) rfl<|.bind fun x23 h13=>.st rfl (cl (CC.h h13) [2] [] [true] rfl (.p rfl<|.l<|.nil) (.p rfl (.i<|.b<|.l<|.i<|.nil) .nil) fnil (.cons (.v (.i<|.b<|.l<|.i<|.nil)) .nil) (.bool _) (.turned .nil) rfl) rfl<|.g 1 rfl<|?_
  refine .gd 15 rfl (fun _=>?_) fun _=>?_
  ·refine .g 2 rfl<|.bind fun x24 h15=>.st rfl (cl (CC.h h15) [2] [] [true] rfl (.p rfl<|.i<|.nil) (.p rfl (.i<|.b<|.l<|.i<|.nil) .nil) fnil (.cons (.v (.i<|.b<|.l<|.i<|.nil)) .nil) (.bool _) (.turned .nil) rfl) rfl<|.g 2 rfl<|.jw (h12 (x24.1,x24.2)) [(0,0),(1,1),(2,2)] rfl
  ·refine .g 5 rfl<|.jw (h12 (false,x23.2)) [(0,0),(1,1),(2,2)] rfl
instance cv_down_i (a0:AD) (a1:Int) (a2:Int):CC (cv_down a0 a1 a2) Tryz.prog 90 [(.ptr 0 0),(.agg (kD.enc a0))] [(.live 53 [(.int .i64 a1),(.int .i64 a2)])] (fun r=>(.agg (kD.enc (⟨((r.1).M),(r.1).E⟩:AD)))) (fun r=>[(.live 53 [(.int .i64 r.2),(.int .i64 a2)])]):=cc func90 (by kernel_rfl) rfl fun E=>by
 unfold cv_down
 refine .g 17 rfl<|?_
 refine .cd rfl (fun _ _=>?_) fun _ _=>?_
 ·refine .g 8 rfl<|.fi rfl rfl
 ·refine .g 10 rfl<|.p0 rfl rfl fun x3 _=>.g 2 rfl<|.bind fun x4 h4=>.st rfl (cl (CC.h h4) [0] [] [true] rfl (.p rfl<|.a kD<|.i<|.nil) (.p rfl (.i<|.i<|.nil) .nil) fnil (.cons (.v (.i<|.i<|.nil)) .nil) (ren_agg (K:=kD) _) (.turned .nil) rfl) rfl<|.g 1 rfl<|.dn (by kernel_rfl)<|.g 2 rfl<|.fi rfl rfl
instance cv_up_i (a0:AD) (a1:Int) (a2:Int):CC (cv_up a0 a1 a2) Tryz.prog 92 [(.ptr 0 0),(.agg (kD.enc a0))] [(.live 53 [(.int .i64 a1),(.int .i64 a2)])] (fun r=>(.agg (kD.enc (⟨((r.1).M),(r.1).E⟩:AD)))) (fun r=>[(.live 53 [(.int .i64 r.2),(.int .i64 a2)])]):=cc func92 (by kernel_rfl) rfl fun E=>by
 unfold cv_up
 refine .g 17 rfl<|?_
 refine .cd rfl (fun _ _=>?_) fun _ _=>?_
 ·refine .g 8 rfl<|.fi rfl rfl
 ·refine .g 10 rfl<|.p0 rfl rfl fun x3 _=>.g 2 rfl<|.bind fun x4 h4=>.st rfl (cl (CC.h h4) [0] [] [true] rfl (.p rfl<|.a kD<|.i<|.nil) (.p rfl (.i<|.i<|.nil) .nil) fnil (.cons (.v (.i<|.i<|.nil)) .nil) (ren_agg (K:=kD) _) (.turned .nil) rfl) rfl<|.g 1 rfl<|.dn (by kernel_rfl)<|.g 2 rfl<|.fi rfl rfl
instance cv_Mul_i (a0:AI) (a1:AI) (a2:Int) (a3:Int):CC (cv_Mul a0 a1 a2 a3) Tryz.prog 32 [(.ptr 0 0),(.agg (kI.enc a0)),(.agg (kI.enc a1))] [(.live 53 [(.int .i64 a2),(.int .i64 a3)])] (fun r=>(.agg (kI.enc (⟨⟨(((r.1).Lo).M),((r.1).Lo).E⟩,⟨(((r.1).Hi).M),((r.1).Hi).E⟩⟩:AI)))) (fun r=>[(.live 53 [(.int .i64 r.2),(.int .i64 a3)])]):=cc func32 (by kernel_rfl) rfl fun E=>by
 unfold cv_Mul
 refine .g 13 rfl<|.st rfl (bs kI [a0,a1] rfl rfl) rfl<|.bind fun x7 h1=>.st rfl (cl (CC.h h1) [0] [] [true] rfl (.p rfl<|.l<|.nil) (.p rfl (.i<|.i<|.nil) .nil) fnil (.cons (.v (.i<|.i<|.nil)) .nil) (.bool _) (.turned .nil) rfl) rfl<|.g 3 rfl<|?_
 refine .cd rfl (fun _ _=>?_) fun _ _=>?_
 ·refine .g 8 rfl<|.fi rfl rfl
 ·refine .g 7 rfl<|.bind fun x8 h4=>.st rfl (cl (CC.h h4) [0] [] [true] rfl (.p rfl<|.a kI<|.a kI<|.cons (ren_fnL _ .nil .nil)<|.nil) (.p rfl (.i<|.i<|.nil) .nil) fnil (.cons (.v (.i<|.i<|.nil)) .nil) (ren_sl _) (.turned .nil) rfl) rfl<|.p0 rfl rfl fun x9 _=>.g 13 rfl<|.bind fun x10 h6=>.st rfl (cl (CC.h h6) [0] [] [true] rfl (.p rfl<|.a kD<|.nil) (.p rfl (.i<|.i<|.nil) .nil) fnil (.cons (.v (.i<|.i<|.nil)) .nil) (ren_agg (K:=kD) _) (.turned .nil) rfl) rfl<|.g 9 rfl<|.bind fun x11 h7=>.st rfl (cl (CC.h h7) [0] [] [true] rfl (.p rfl<|.a kD<|.nil) (.p rfl (.i<|.i<|.nil) .nil) fnil (.cons (.v (.i<|.i<|.nil)) .nil) (ren_agg (K:=kD) _) (.turned .nil) rfl) rfl<|.bind fun x12 h8=>.st rfl (cl (CC.h h8) [0] [] [false] rfl (.p rfl<|.a kD<|.a kD<|.nil) (.p rfl (.i<|.i<|.nil) .nil) fnil (.cons (.v (.i<|.i<|.nil)) .nil) (ren_agg (K:=kI) _) (.kept rfl .nil) rfl) rfl<|.g 1 rfl<|.dn (by kernel_rfl)<|?_
  refine .g 2 rfl<|.fi rfl rfl
instance small_Exp_1_i (a0:Int) (a1:AI) (a2:Int) (a3:Int) (a4:Bool) (a5:List Int) (a6:Int) (a7:Bool) (a8:List Int) (a9:Int):CC (small_Exp_1 a0 a1 a2 a3 a4 a5 a6 a7 a8 a9) Tryz.prog 272 [(.int .i64 a0),(.agg (kI.enc a1)),(.ptr 0 0),(.ptr 2 0)] [(.live 45 [(.ptr 1 0)]),(.live 53 [(.int .i64 a2),(.int .i64 a3)]),(.live 30 [(.bool a4),(slK (kInt .u32) a5),(.int .i64 a6),(.bool a7),(slK (kInt .u32) a8),(.int .i64 a9)])] (fun r=>(.agg (kI.enc (⟨⟨(((r.1).Lo).M),((r.1).Lo).E⟩,⟨(((r.1).Hi).M),((r.1).Hi).E⟩⟩:AI)))) (fun r=>[(.live 45 [(.ptr 1 0)]),(.live 53 [(.int .i64 r.2),(.int .i64 a3)]),(.live 30 [(.bool a4),(slK (kInt .u32) a5),(.int .i64 a6),(.bool a7),(slK (kInt .u32) a8),(.int .i64 a9)])]):=cc func272 (by kernel_rfl) rfl fun E=>by
 unfold small_Exp_1
 refine .g 12 rfl<|.bind fun x4 h1=>.st rfl (cl (CC.h h1) [1] [] [true] rfl (.p rfl<|.a kI<|.a kI<|.nil) (.p rfl (.i<|.i<|.nil) .nil) fnil (.cons (.v (.i<|.i<|.nil)) .nil) (ren_agg (K:=kI) _) (.turned .nil) rfl) rfl<|.g 2 rfl<|.bind fun x5 h2=>.st rfl (cl (CC.h h2) [1] [] [true] rfl (.p rfl<|.i<|.nil) (.p rfl (.i<|.i<|.nil) .nil) fnil (.cons (.v (.i<|.i<|.nil)) .nil) (ren_agg (K:=kI) _) (.turned .nil) rfl) rfl<|.bind fun x6 h3=>.st rfl (cl (CC.h h3) [1] [] [true] rfl (.p rfl<|.a kI<|.a kI<|.nil) (.p rfl (.i<|.i<|.nil) .nil) fnil (.cons (.v (.i<|.i<|.nil)) .nil) (ren_agg (K:=kI) _) (.turned .nil) rfl) rfl<|.g 1 rfl<|.dn (by kernel_rfl)<|.g 2 rfl<|.fi rfl rfl
instance small_plain_1_c88c_i (a0:Int) (a1:AI) (a2:Int) (a3:Int) (a4:Bool) (a5:List Int) (a6:Int) (a7:Bool) (a8:List Int) (a9:Int):CC (small_plain_1_c88c a0 a1 a2 a3 a4 a5 a6 a7 a8 a9) Tryz.prog 328 [(.int .i64 a0),(.agg (kI.enc a1)),(.ptr 0 0)] [(.live 257 [(.fn 272 [] [(.ptr 1 0),(.ptr 3 0)])]),(.live 45 [(.ptr 2 0)]),(.live 53 [(.int .i64 a2),(.int .i64 a3)]),(.live 30 [(.bool a4),(slK (kInt .u32) a5),(.int .i64 a6),(.bool a7),(slK (kInt .u32) a8),(.int .i64 a9)])] (fun r=>(.tup [(.agg (kI.enc (⟨⟨(((r.1).Lo).M),((r.1).Lo).E⟩,⟨(((r.1).Hi).M),((r.1).Hi).E⟩⟩:AI))),(.agg (kI.enc (⟨⟨(((r.2.1).Lo).M),((r.2.1).Lo).E⟩,⟨(((r.2.1).Hi).M),((r.2.1).Hi).E⟩⟩:AI)))])) (fun r=>[(.live 257 [(.fn 272 [] [(.ptr 1 0),(.ptr 3 0)])]),(.live 45 [(.ptr 2 0)]),(.live 53 [(.int .i64 r.2.2),(.int .i64 a3)]),(.live 30 [(.bool a4),(slK (kInt .u32) a5),(.int .i64 a6),(.bool a7),(slK (kInt .u32) a8),(.int .i64 a9)])]):=cc func328 (by kernel_rfl) rfl fun E=>by
 unfold small_plain_1_c88c
 refine .g 12 rfl<|.bind fun x2 h1=>.st rfl (cl (CC.h h1) [1,2,3] [] [false,true,false] rfl (.i<|.a kI<|.p rfl<|.p rfl<|.nil) (.p rfl (.p rfl<|.nil) (.p rfl (.i<|.i<|.nil) (.p rfl (.b<|.l<|.i<|.b<|.l<|.i<|.nil) .nil))) fnil (.cons (.v (.p rfl<|.nil)) (.cons (.v (.i<|.i<|.nil)) (.cons (.v (.b<|.l<|.i<|.b<|.l<|.i<|.nil)) .nil))) (ren_agg (K:=kI) _) (.kept rfl (.turned (.kept rfl .nil))) rfl) rfl<|.g 9 rfl<|.dn (by kernel_rfl)<|.g 2 rfl<|.fi rfl rfl
instance dyad_Add_i (a0:AD) (a1:AD):PC (dyad_Add a0 a1) Tryz.prog 49 [(.agg (kD.enc a0)),(.agg (kD.enc a1))] (fun r=>(.tup [(.agg (kD.enc (⟨((r.1).M),(r.1).E⟩:AD))),(.int .i64 r.2)])):=pc func49 (by kernel_rfl) rfl fun E=>by
 unfold dyad_Add
 refine .g 21 rfl<|.st rfl (bs kD [a0,a1] rfl rfl) rfl<|.bind fun x8 h1=>.st rfl (cl (CC.h h1) [3] [] [true] rfl (.p rfl<|.l<|.nil) (.p rfl (.i<|.b<|.l<|.i<|.nil) .nil) fnil (.cons (.v (.i<|.b<|.l<|.i<|.nil)) .nil) (.bool _) (.turned .nil) rfl) rfl<|.g 2 rfl<|?_
 refine .cut (fun x:Bool × (List Int) × Int=>(dyad_Add_j1 x8 x.1 x.2.1 x.2.2,[eP 4 2,eP 6 3],[(2,(.live 26 [(.bool false),(slK (kInt .u32) []),(.int .i64 0)])),(3,(.live 174 [(.int .i64 x8.2),(.bool x.1),(slK (kInt .u32) x.2.1),(.int .i64 x.2.2)]))])) ?_ ?_
 ·rintro ⟨y10,y11,y12⟩
  dsimp only [dyad_Add_j1]
  refine .g 4 rfl<|.bind fun x13 h5=>.st rfl (cl (CC.h h5) [3] [] [true] rfl (.p rfl<|.nil) (.p rfl (.i<|.b<|.l<|.i<|.nil) .nil) fnil (.cons (.v (.i<|.b<|.l<|.i<|.nil)) .nil) (ren_tupL (.a kD<|.i<|.nil)) (.turned .nil) rfl) rfl<|.g 7 rfl<|.fi rfl rfl
 ·intro h6
  refine .cd rfl (fun _ _=>?_) fun _ _=>?_
  ·refine .g 4 rfl<|.p0 rfl rfl fun x14 _=>.g 4 rfl<|.jw (h6 (((x14).M).Neg,((x14).M).Mag,(x14).E)) [(2,2),(3,3)] rfl
  ·refine .g 1 rfl<|.jw (h6 (false,[],0)) [(2,2),(3,3)] rfl
instance cv_sum_i (a0:AD) (a1:AD) (a2:Int) (a3:Int):CC (cv_sum a0 a1 a2 a3) Tryz.prog 140 [(.ptr 0 0),(.agg (kD.enc a0)),(.agg (kD.enc a1))] [(.live 53 [(.int .i64 a2),(.int .i64 a3)])] (fun r=>(.agg (kD.enc (⟨((r.1).M),(r.1).E⟩:AD)))) (fun r=>[(.live 53 [(.int .i64 r.2),(.int .i64 a3)])]):=cc func140 (by kernel_rfl) rfl fun E=>by
 unfold cv_sum
 refine .g 18 rfl<|?_
 refine .cd rfl (fun _ _=>?_) fun _ _=>?_
 ·refine .g 8 rfl<|.fi rfl rfl
 ·refine .g 7 rfl<|.p0 rfl rfl fun x3 _=>.g 2 rfl<|.bind fun x4 h4=>.st rfl (cl (CC.h h4) [0] [] [true] rfl (.p rfl<|.a kD<|.i<|.nil) (.p rfl (.i<|.i<|.nil) .nil) fnil (.cons (.v (.i<|.i<|.nil)) .nil) (ren_agg (K:=kD) _) (.turned .nil) rfl) rfl<|.g 4 rfl<|.fi rfl rfl
instance cv_Add_i (a0:AI) (a1:AI) (a2:Int) (a3:Int):CC (cv_Add a0 a1 a2 a3) Tryz.prog 93 [(.ptr 0 0),(.agg (kI.enc a0)),(.agg (kI.enc a1))] [(.live 53 [(.int .i64 a2),(.int .i64 a3)])] (fun r=>(.agg (kI.enc (⟨⟨(((r.1).Lo).M),((r.1).Lo).E⟩,⟨(((r.1).Hi).M),((r.1).Hi).E⟩⟩:AI)))) (fun r=>[(.live 53 [(.int .i64 r.2),(.int .i64 a3)])]):=cc func93 (by kernel_rfl) rfl fun E=>by
 unfold cv_Add
 refine .g 13 rfl<|.st rfl (bs kI [a0,a1] rfl rfl) rfl<|.bind fun x7 h1=>.st rfl (cl (CC.h h1) [0] [] [true] rfl (.p rfl<|.l<|.nil) (.p rfl (.i<|.i<|.nil) .nil) fnil (.cons (.v (.i<|.i<|.nil)) .nil) (.bool _) (.turned .nil) rfl) rfl<|.g 3 rfl<|?_
 refine .cd rfl (fun _ _=>?_) fun _ _=>?_
 ·refine .g 8 rfl<|.fi rfl rfl
 ·refine .g 10 rfl<|.bind fun x8 h4=>.st rfl (cl (CC.h h4) [0] [] [true] rfl (.p rfl<|.a kD<|.a kD<|.nil) (.p rfl (.i<|.i<|.nil) .nil) fnil (.cons (.v (.i<|.i<|.nil)) .nil) (ren_agg (K:=kD) _) (.turned .nil) rfl) rfl<|.bind fun x9 h5=>.st rfl (cl (CC.h h5) [0] [] [true] rfl (.p rfl<|.a kD<|.nil) (.p rfl (.i<|.i<|.nil) .nil) fnil (.cons (.v (.i<|.i<|.nil)) .nil) (ren_agg (K:=kD) _) (.turned .nil) rfl) rfl<|.g 14 rfl<|.bind fun x10 h6=>.st rfl (cl (CC.h h6) [0] [] [true] rfl (.p rfl<|.a kD<|.a kD<|.nil) (.p rfl (.i<|.i<|.nil) .nil) fnil (.cons (.v (.i<|.i<|.nil)) .nil) (ren_agg (K:=kD) _) (.turned .nil) rfl) rfl<|.bind fun x11 h7=>.st rfl (cl (CC.h h7) [0] [] [true] rfl (.p rfl<|.a kD<|.nil) (.p rfl (.i<|.i<|.nil) .nil) fnil (.cons (.v (.i<|.i<|.nil)) .nil) (ren_agg (K:=kD) _) (.turned .nil) rfl) rfl<|.bind fun x12 h8=>.st rfl (cl (CC.h h8) [0] [] [false] rfl (.p rfl<|.a kD<|.a kD<|.nil) (.p rfl (.i<|.i<|.nil) .nil) fnil (.cons (.v (.i<|.i<|.nil)) .nil) (ren_agg (K:=kI) _) (.kept rfl .nil) rfl) rfl<|.g 1 rfl<|.dn (by kernel_rfl)<|?_
  refine .g 2 rfl<|.fi rfl rfl
instance cv_Wide_i (a0:AI) (a1:AD) (a2:Int) (a3:Int):CC (cv_Wide a0 a1 a2 a3) Tryz.prog 57 [(.ptr 0 0),(.agg (kI.enc a0)),(.agg (kD.enc a1))] [(.live 53 [(.int .i64 a2),(.int .i64 a3)])] (fun r=>(.agg (kI.enc (⟨⟨(((r.1).Lo).M),((r.1).Lo).E⟩,⟨(((r.1).Hi).M),((r.1).Hi).E⟩⟩:AI)))) (fun r=>[(.live 53 [(.int .i64 r.2),(.int .i64 a3)])]):=cc func57 (by kernel_rfl) rfl fun E=>by
 unfold cv_Wide
 refine .g 14 rfl<|.st rfl (bs kI [a0,(⟨⟨⟨false,[]⟩,0⟩,a1⟩:AI)] rfl rfl) rfl<|.bind fun x8 h1=>.st rfl (cl (CC.h h1) [0] [] [true] rfl (.p rfl<|.l<|.nil) (.p rfl (.i<|.i<|.nil) .nil) fnil (.cons (.v (.i<|.i<|.nil)) .nil) (.bool _) (.turned .nil) rfl) rfl<|.g 3 rfl<|?_
 refine .cd rfl (fun _ _=>?_) fun _ _=>?_
 ·refine .g 8 rfl<|.fi rfl rfl
 ·refine .g 9 rfl<|.p0 rfl rfl fun x9 _=>.bind fun x10 h5=>.st rfl (cl (CC.h h5) [0] [] [true] rfl (.p rfl<|.a kD<|.a kD<|.nil) (.p rfl (.i<|.i<|.nil) .nil) fnil (.cons (.v (.i<|.i<|.nil)) .nil) (ren_agg (K:=kD) _) (.turned .nil) rfl) rfl<|.bind fun x11 h6=>.st rfl (cl (CC.h h6) [0] [] [true] rfl (.p rfl<|.a kD<|.nil) (.p rfl (.i<|.i<|.nil) .nil) fnil (.cons (.v (.i<|.i<|.nil)) .nil) (ren_agg (K:=kD) _) (.turned .nil) rfl) rfl<|.g 2 rfl<|.dn (by kernel_rfl)<|.g 10 rfl<|.bind fun x12 h7=>.st rfl (cl (CC.h h7) [0] [] [true] rfl (.p rfl<|.a kD<|.a kD<|.nil) (.p rfl (.i<|.i<|.nil) .nil) fnil (.cons (.v (.i<|.i<|.nil)) .nil) (ren_agg (K:=kD) _) (.turned .nil) rfl) rfl<|.bind fun x13 h8=>.st rfl (cl (CC.h h8) [0] [] [true] rfl (.p rfl<|.a kD<|.nil) (.p rfl (.i<|.i<|.nil) .nil) fnil (.cons (.v (.i<|.i<|.nil)) .nil) (ren_agg (K:=kD) _) (.turned .nil) rfl) rfl<|.bind fun x14 h9=>?_
  refine .st rfl (cl (CC.h h9) [0] [] [false] rfl (.p rfl<|.a kD<|.a kD<|.nil) (.p rfl (.i<|.i<|.nil) .nil) fnil (.cons (.v (.i<|.i<|.nil)) .nil) (ren_agg (K:=kI) _) (.kept rfl .nil) rfl) rfl<|.g 1 rfl<|.dn (by kernel_rfl)<|.g 2 rfl<|.fi rfl rfl
instance small_series_361b_i (a0:AI) (a1:Int) (a2:Int) (a3:Bool) (a4:List Int) (a5:Int) (a6:Bool) (a7:List Int) (a8:Int):CC (small_series_361b a0 a1 a2 a3 a4 a5 a6 a7 a8) Tryz.prog 327 [(.ptr 0 0),(.agg (kI.enc a0)),(.fn 328 [] [(.ptr 1 0)])] [(.live 53 [(.int .i64 a1),(.int .i64 a2)]),(.live 257 [(.fn 272 [] [(.ptr 2 0),(.ptr 3 0)])]),(.live 45 [(.ptr 0 0)]),(.live 30 [(.bool a3),(slK (kInt .u32) a4),(.int .i64 a5),(.bool a6),(slK (kInt .u32) a7),(.int .i64 a8)])] (fun r=>(.agg (kI.enc (⟨⟨(((r.1).Lo).M),((r.1).Lo).E⟩,⟨(((r.1).Hi).M),((r.1).Hi).E⟩⟩:AI)))) (fun r=>[(.live 53 [(.int .i64 r.2),(.int .i64 a2)]),(.live 257 [(.fn 272 [] [(.ptr 2 0),(.ptr 3 0)])]),(.live 45 [(.ptr 0 0)]),(.live 30 [(.bool a3),(slK (kInt .u32) a4),(.int .i64 a5),(.bool a6),(slK (kInt .u32) a7),(.int .i64 a8)])]):=cc func327 (by kernel_rfl) rfl fun E=>by
 unfold small_series_361b
 refine .g 14 rfl<|.dn (by kernel_rfl)<|.g 5 rfl<|.bind fun x93 h1=>.st rfl (cl (CC.h h1) [0] [] [false] rfl (.p rfl<|.nil) (.p rfl (.i<|.i<|.nil) .nil) fnil (.cons (.v (.i<|.i<|.nil)) .nil) (.int _ _) (.kept rfl .nil) rfl) rfl<|.p0 rfl rfl fun x94 _=>.g 3 rfl<|?_
 refine .cut (fun x:Int × Bool × (List Int) × Int × Bool × (List Int) × Int=>(small_series_361b_j1 a2 x.1 x.2.1 x.2.2.1 x.2.2.2.1 x.2.2.2.2.1 x.2.2.2.2.2.1 x.2.2.2.2.2.2,[eP 0 0,eP 6 5,eP 7 6],[(0,(.live 53 [(.int .i64 x.1),(.int .i64 a2)])),(1,(.live 257 [(.fn 272 [] [(.ptr 2 0),(.ptr 3 0)])])),(2,(.live 45 [(.ptr 0 0)])),(3,(.live 30 [(.bool a3),(slK (kInt .u32) a4),(.int .i64 a5),(.bool a6),(slK (kInt .u32) a7),(.int .i64 a8)])),(5,(.live 30 [(.bool false),(slK (kInt .u32) []),(.int .i64 0),(.bool false),(slK (kInt .u32) []),(.int .i64 0)])),(6,(.live 30 [(.bool x.2.1),(slK (kInt .u32) x.2.2.1),(.int .i64 x.2.2.2.1),(.bool x.2.2.2.2.1),(slK (kInt .u32) x.2.2.2.2.2.1),(.int .i64 x.2.2.2.2.2.2)]))])) ?_ ?_
 ·rintro ⟨y135,y136,y137,y138,y139,y140,y141⟩
  dsimp only [small_series_361b_j1]
  refine .g 6 rfl<|.bind fun x142 h21=>.st rfl (cl (CC.h h21) [0] [] [false] rfl (.p rfl<|.nil) (.p rfl (.i<|.i<|.nil) .nil) fnil (.cons (.v (.i<|.i<|.nil)) .nil) (.int _ _) (.kept rfl .nil) rfl) rfl<|.g 1 rfl<|.p0 rfl rfl fun x143 _=>.bind fun x144 h23=>.st rfl (cl (CC.h h23) [0] [] [true] rfl (.p rfl<|.a kI<|.a kD<|.nil) (.p rfl (.i<|.i<|.nil) .nil) fnil (.cons (.v (.i<|.i<|.nil)) .nil) (ren_agg (K:=kI) _) (.turned .nil) rfl) rfl<|.g 1 rfl<|.dn (by kernel_rfl)<|.g 2 rfl<|.fi rfl rfl
 ·intro h24
  refine .g 1 rfl<|?_
  refine .lp (fun n (x:Int × Int × Bool × (List Int) × Int × Bool × (List Int) × Int × Bool × (List Int) × Int × Bool × (List Int) × Int)=>small_series_361b_l2 x94 a2 a3 a4 a5 a6 a7 a8 n x.1 x.2.1 x.2.2.1 x.2.2.2.1 x.2.2.2.2.1 x.2.2.2.2.2.1 x.2.2.2.2.2.2.1 x.2.2.2.2.2.2.2.1 x.2.2.2.2.2.2.2.2.1 x.2.2.2.2.2.2.2.2.2.1 x.2.2.2.2.2.2.2.2.2.2.1 x.2.2.2.2.2.2.2.2.2.2.2.1 x.2.2.2.2.2.2.2.2.2.2.2.2.1 x.2.2.2.2.2.2.2.2.2.2.2.2.2) (fun x=>([eP 0 0,(2,some (.fn 328 [] [(.ptr 1 0)])),eP 6 5,eP 7 6,eP 8 7,eI 15 x94,eI 16 x.1],[(0,(.live 53 [(.int .i64 x.2.1),(.int .i64 a2)])),(1,(.live 257 [(.fn 272 [] [(.ptr 2 0),(.ptr 3 0)])])),(2,(.live 45 [(.ptr 0 0)])),(3,(.live 30 [(.bool a3),(slK (kInt .u32) a4),(.int .i64 a5),(.bool a6),(slK (kInt .u32) a7),(.int .i64 a8)])),(5,(.live 30 [(.bool false),(slK (kInt .u32) []),(.int .i64 0),(.bool false),(slK (kInt .u32) []),(.int .i64 0)])),(6,(.live 30 [(.bool x.2.2.1),(slK (kInt .u32) x.2.2.2.1),(.int .i64 x.2.2.2.2.1),(.bool x.2.2.2.2.2.1),(slK (kInt .u32) x.2.2.2.2.2.2.1),(.int .i64 x.2.2.2.2.2.2.2.1)])),(7,(.live 30 [(.bool x.2.2.2.2.2.2.2.2.1),(slK (kInt .u32) x.2.2.2.2.2.2.2.2.2.1),(.int .i64 x.2.2.2.2.2.2.2.2.2.2.1),(.bool x.2.2.2.2.2.2.2.2.2.2.2.1),(slK (kInt .u32) x.2.2.2.2.2.2.2.2.2.2.2.2.1),(.int .i64 x.2.2.2.2.2.2.2.2.2.2.2.2.2)]))])) (0,a1,a0.Lo.M.Neg,a0.Lo.M.Mag,a0.Lo.E,a0.Hi.M.Neg,a0.Hi.M.Mag,a0.Hi.E,a0.Lo.M.Neg,a0.Lo.M.Mag,a0.Lo.E,a0.Hi.M.Neg,a0.Hi.M.Mag,a0.Hi.E) [(0,0),(1,1),(2,2),(3,3),(5,5),(6,6),(7,7)] rfl ?_
  rintro n2 ⟨y167,y168,y169,y170,y171,y172,y173,y174,y175,y176,y177,y178,y179,y180⟩
  try dsimp only
  rw [small_series_361b_l2]
  refine .g 6 rfl<|?_
  refine .cd rfl (fun _ _=>?_) fun _ _=>?_
  ·refine .g 21 rfl<|.bind fun x183 h41=>.st rfl (cl (CC.h h41) [1,2,0,3] [] [false,false,true,false] rfl (.i<|.a kI<|.p rfl<|.nil) (.p rfl (.cons (ren_fnL _ .nil (.p rfl<|.p rfl<|.nil))<|.nil) (.p rfl (.p rfl<|.nil) (.p rfl (.i<|.i<|.nil) (.p rfl (.b<|.l<|.i<|.b<|.l<|.i<|.nil) .nil)))) fnil (.cons (.v (.cons (ren_fnL _ .nil (.p rfl<|.p rfl<|.nil))<|.nil)) (.cons (.v (.p rfl<|.nil)) (.cons (.v (.i<|.i<|.nil)) (.cons (.v (.b<|.l<|.i<|.b<|.l<|.i<|.nil)) .nil)))) (ren_tupL (.a kI<|.a kI<|.nil)) (.kept rfl (.kept rfl (.turned (.kept rfl .nil)))) rfl) rfl<|.g 11 rfl<|.bind fun x184 h42=>.st rfl (cl (CC.h h42) [0] [] [true] rfl (.p rfl<|.a kI<|.a kI<|.nil) (.p rfl (.i<|.i<|.nil) .nil) fnil (.cons (.v (.i<|.i<|.nil)) .nil) (ren_agg (K:=kI) _) (.turned .nil) rfl) rfl<|.g 8 rfl<|.ag ((IntKind.i64.wrap (y167+1)),x184.2,(((x184.1).Lo).M).Neg,(((x184.1).Lo).M).Mag,((x184.1).Lo).E,(((x184.1).Hi).M).Neg,(((x184.1).Hi).M).Mag,((x184.1).Hi).E,(((x183.1).Lo).M).Neg,(((x183.1).Lo).M).Mag,((x183.1).Lo).E,(((x183.1).Hi).M).Neg,(((x183.1).Hi).M).Mag,((x183.1).Hi).E) [(0,0),(1,1),(2,2),(3,3),(5,5),(6,6),(7,7)] rfl
  ·refine .g 4 rfl<|.jw (h24 (y168,y169,y170,y171,y172,y173,y174)) [(0,0),(1,1),(2,2),(3,3),(5,5),(6,6)] rfl
instance small_plain_1fcd_i (a0:AI) (a1:Int) (a2:Int) (a3:Bool) (a4:List Int) (a5:Int) (a6:Bool) (a7:List Int) (a8:Int):CC (small_plain_1fcd a0 a1 a2 a3 a4 a5 a6 a7 a8) Tryz.prog 271 [(.ptr 0 0),(.agg (kI.enc a0)),(.fn 272 [] [(.ptr 1 0),(.ptr 2 0)])] [(.live 53 [(.int .i64 a1),(.int .i64 a2)]),(.live 45 [(.ptr 0 0)]),(.live 30 [(.bool a3),(slK (kInt .u32) a4),(.int .i64 a5),(.bool a6),(slK (kInt .u32) a7),(.int .i64 a8)])] (fun r=>(.agg (kI.enc (⟨⟨(((r.1).Lo).M),((r.1).Lo).E⟩,⟨(((r.1).Hi).M),((r.1).Hi).E⟩⟩:AI)))) (fun r=>[(.live 53 [(.int .i64 r.2),(.int .i64 a2)]),(.live 45 [(.ptr 0 0)]),(.live 30 [(.bool a3),(slK (kInt .u32) a4),(.int .i64 a5),(.bool a6),(slK (kInt .u32) a7),(.int .i64 a8)])]):=cc func271 (by kernel_rfl) rfl fun E=>by
 unfold small_plain_1fcd
 refine .g 12 rfl<|.bind fun x2 h1=>.st rfl (cl (CC.h h1) [0,4,1,2] [] [true,false,false,false] rfl (.p rfl<|.a kI<|.cons (ren_fnL _ .nil (.p rfl<|.nil))<|.nil) (.p rfl (.i<|.i<|.nil) (.p rfl (.cons (ren_fnL _ .nil (.p rfl<|.p rfl<|.nil))<|.nil) (.p rfl (.p rfl<|.nil) (.p rfl (.b<|.l<|.i<|.b<|.l<|.i<|.nil) .nil)))) fnil (.cons (.v (.i<|.i<|.nil)) (.cons (.v (.cons (ren_fnL _ .nil (.p rfl<|.p rfl<|.nil))<|.nil)) (.cons (.v (.p rfl<|.nil)) (.cons (.v (.b<|.l<|.i<|.b<|.l<|.i<|.nil)) .nil)))) (ren_agg (K:=kI) _) (.turned (.kept rfl (.kept rfl (.kept rfl .nil)))) rfl) rfl<|.g 4 rfl<|.fi rfl rfl
instance small_Exp_i (a0:AI) (a1:Int) (a2:Int):CC (small_Exp a0 a1 a2) Tryz.prog 179 [(.ptr 0 0),(.agg (kI.enc a0))] [(.live 53 [(.int .i64 a1),(.int .i64 a2)])] (fun r=>(.agg (kI.enc (⟨⟨(((r.1).Lo).M),((r.1).Lo).E⟩,⟨(((r.1).Hi).M),((r.1).Hi).E⟩⟩:AI)))) (fun r=>[(.live 53 [(.int .i64 r.2),(.int .i64 a2)])]):=cc func179 (by kernel_rfl) rfl fun E=>by
 unfold small_Exp
 refine .g 12 rfl<|.bind fun x4 h1=>.st rfl (cl (CC.h h1) [0] [] [true] rfl (.p rfl<|.a kI<|.i<|.nil) (.p rfl (.i<|.i<|.nil) .nil) fnil (.cons (.v (.i<|.i<|.nil)) .nil) (.bool _) (.turned .nil) rfl) rfl<|.g 3 rfl<|?_
 refine .cd rfl (fun _ _=>?_) fun _ _=>?_
 ·refine .g 8 rfl<|.fi rfl rfl
 ·refine .g 6 rfl<|.bind fun x5 h4=>.st rfl (cl (CC.h h4) [0] [] [true] rfl (.p rfl<|.i<|.nil) (.p rfl (.i<|.i<|.nil) .nil) fnil (.cons (.v (.i<|.i<|.nil)) .nil) (ren_agg (K:=kI) _) (.turned .nil) rfl) rfl<|.g 1 rfl<|.bind fun x6 h5=>.st rfl (cl (CC.h h5) [0,1,2] [] [true,false,false] rfl (.p rfl<|.a kI<|.cons (ren_fnL _ .nil (.p rfl<|.p rfl<|.nil))<|.nil) (.p rfl (.i<|.i<|.nil) (.p rfl (.p rfl<|.nil) (.p rfl (.b<|.l<|.i<|.b<|.l<|.i<|.nil) .nil))) fnil (.cons (.v (.i<|.i<|.nil)) (.cons (.v (.p rfl<|.nil)) (.cons (.v (.b<|.l<|.i<|.b<|.l<|.i<|.nil)) .nil))) (ren_agg (K:=kI) _) (.turned (.kept rfl (.kept rfl .nil))) rfl) rfl<|.g 1 rfl<|.dn (by kernel_rfl)<|.g 2 rfl<|.fi rfl rfl
instance cv_Out_i (a0:AI) (a1:Int) (a2:Int):CC (cv_Out a0 a1 a2) Tryz.prog 144 [(.ptr 0 0),(.agg (kI.enc a0))] [(.live 53 [(.int .i64 a1),(.int .i64 a2)])] (fun r=>(.agg (kI.enc (⟨⟨(((r.1).Lo).M),((r.1).Lo).E⟩,⟨(((r.1).Hi).M),((r.1).Hi).E⟩⟩:AI)))) (fun r=>[(.live 53 [(.int .i64 r.2),(.int .i64 a2)])]):=cc func144 (by kernel_rfl) rfl fun E=>by
 unfold cv_Out
 refine .g 11 rfl<|.st rfl (bs kI [a0] rfl rfl) rfl<|.bind fun x5 h1=>.st rfl (cl (CC.h h1) [0] [] [true] rfl (.p rfl<|.l<|.nil) (.p rfl (.i<|.i<|.nil) .nil) fnil (.cons (.v (.i<|.i<|.nil)) .nil) (.bool _) (.turned .nil) rfl) rfl<|.g 3 rfl<|?_
 refine .cd rfl (fun _ _=>?_) fun _ _=>?_
 ·refine .g 8 rfl<|.fi rfl rfl
 ·refine .g 7 rfl<|.bind fun x6 h4=>.st rfl (cl (CC.h h4) [0] [] [true] rfl (.p rfl<|.a kD<|.nil) (.p rfl (.i<|.i<|.nil) .nil) fnil (.cons (.v (.i<|.i<|.nil)) .nil) (ren_agg (K:=kD) _) (.turned .nil) rfl) rfl<|.g 11 rfl<|.bind fun x7 h5=>.st rfl (cl (CC.h h5) [0] [] [true] rfl (.p rfl<|.a kD<|.nil) (.p rfl (.i<|.i<|.nil) .nil) fnil (.cons (.v (.i<|.i<|.nil)) .nil) (ren_agg (K:=kD) _) (.turned .nil) rfl) rfl<|.bind fun x8 h6=>.st rfl (cl (CC.h h6) [0] [] [false] rfl (.p rfl<|.a kD<|.a kD<|.nil) (.p rfl (.i<|.i<|.nil) .nil) fnil (.cons (.v (.i<|.i<|.nil)) .nil) (ren_agg (K:=kI) _) (.kept rfl .nil) rfl) rfl<|.g 1 rfl<|.dn (by kernel_rfl)<|.g 2 rfl<|.fi rfl rfl
instance expo_done_i (a0:AI) (a1:Int) (a2:Int) (a3:Int):CC (expo_done a0 a1 a2 a3) Tryz.prog 180 [(.ptr 0 0),(.agg (kI.enc a0)),(.int .i64 a1)] [(.live 53 [(.int .i64 a2),(.int .i64 a3)])] (fun r=>(.tup [(.agg (kI.enc (⟨⟨(((r.1).Lo).M),((r.1).Lo).E⟩,⟨(((r.1).Hi).M),((r.1).Hi).E⟩⟩:AI))),(.int .i64 r.2)])) (fun r=>[(.live 53 [(.int .i64 a2),(.int .i64 a3)])]):=cc func180 (by kernel_rfl) rfl fun E=>by
 unfold expo_done
 refine .g 13 rfl<|.bind fun x7 h1=>.st rfl (cl (CC.h h1) [0] [] [false] rfl (.p rfl<|.nil) (.p rfl (.i<|.i<|.nil) .nil) fnil (.cons (.v (.i<|.i<|.nil)) .nil) (.int _ _) (.kept rfl .nil) rfl) rfl<|.g 9 rfl<|?_
 refine .cd rfl (fun _ _=>?_) fun _ _=>?_
 ·refine .g 10 rfl<|.fi rfl rfl
 ·refine .g 5 rfl<|.bind fun x8 h4=>?_
  rcases x8 with x9 | x10
  ·dsimp only
   refine .st rfl (cl (iv_New_k_0 h4) [] [3] [true] rfl (.i<|.nil) .nil (fresh_cons rfl fnil) (.cons .dead .nil) (ren_tupL (.cons .nilptr<|.i<|.nil)) (.turned .nil) rfl) rfl<|.g 11 rfl<|.no
  ·dsimp only
   refine .st rfl (cl (iv_New_k_1 h4) [] [3] [true] rfl (.i<|.nil) .nil (fresh_cons rfl fnil) (.cons (.v (.i<|.i<|.nil)) .nil) (ren_tupL (.p rfl<|.i<|.nil)) (.turned .nil) rfl) rfl<|.g 11 rfl<|.bind fun x11 h5=>.st rfl (cl (CC.h h5) [3] [] [true] rfl (.p rfl<|.a kI<|.nil) (.p rfl (.i<|.i<|.nil) .nil) fnil (.cons (.v (.i<|.i<|.nil)) .nil) (ren_agg (K:=kI) _) (.turned .nil) rfl) rfl<|.g 10 rfl<|.bind fun x12 h6=>.st rfl (cl (CC.h h6) [3] [] [false] rfl (.p rfl<|.nil) (.p rfl (.i<|.i<|.nil) .nil) fnil (.cons (.v (.i<|.i<|.nil)) .nil) (.int _ _) (.kept rfl .nil) rfl) rfl<|.g 2 rfl<|.dn (by kernel_rfl)<|.g 2 rfl<|.fi rfl rfl
instance expo_Exp_i (a0:AD) (a1:Int):PC (expo_Exp a0 a1) Tryz.prog 85 [(.agg (kD.enc a0)),(.int .i64 a1)] (fun r=>(.tup [(.agg (kI.enc (⟨⟨(((r.1).Lo).M),((r.1).Lo).E⟩,⟨(((r.1).Hi).M),((r.1).Hi).E⟩⟩:AI))),(.int .i64 r.2)])):=pc func85 (by kernel_rfl) rfl fun E=>by
 unfold expo_Exp
 refine .g 12 rfl<|.st rfl (bs kD [a0] rfl rfl) rfl<|.p0 rfl rfl fun x63 _=>.g 3 rfl<|?_
 refine .cd rfl (fun _ _=>?_) fun _ _=>?_
 ·refine .g 9 rfl<|.fi rfl rfl
 ·refine .g 5 rfl<|.p0 rfl rfl fun x64 _=>.g 9 rfl<|?_
  refine .cut (fun x:Bool=>(expo_Exp_j1 x64 a1 a0 x,[eI 1 a1,eP 2 0,eP 4 1,eI 6 x64.1,eB 7 x64.2,eB 27 x],[(0,(.live 26 [(.bool a0.M.Neg),(slK (kInt .u32) a0.M.Mag),(.int .i64 a0.E)])),(1,(.live 30 [(.bool false),(slK (kInt .u32) []),(.int .i64 0),(.bool false),(slK (kInt .u32) []),(.int .i64 0)]))])) ?_ ?_
  ·rintro y65
   dsimp only [expo_Exp_j1]
   refine .g 1 rfl<|?_
   refine .cd rfl (fun _ _=>?_) fun _ _=>?_
   ·refine .g 9 rfl<|.fi rfl rfl
   ·refine .g 13 rfl<|?_
    refine .cut (fun x:Int=>(expo_Exp_j2 a1 a0 x,[eI 1 a1,eP 2 0,eP 4 1,eI 8 x],[(0,(.live 26 [(.bool a0.M.Neg),(slK (kInt .u32) a0.M.Mag),(.int .i64 a0.E)])),(1,(.live 30 [(.bool false),(slK (kInt .u32) []),(.int .i64 0),(.bool false),(slK (kInt .u32) []),(.int .i64 0)]))])) ?_ ?_
    ·rintro y66
     dsimp only [expo_Exp_j2]
     refine .g 5 rfl<|.bind fun x67 h10=>?_
     rcases x67 with x68 | x69
     ·dsimp only
      refine .st rfl (cl (iv_New_k_0 h10) [] [2] [true] rfl (.i<|.nil) .nil (fresh_cons rfl fnil) (.cons .dead .nil) (ren_tupL (.cons .nilptr<|.i<|.nil)) (.turned .nil) rfl) rfl<|.g 13 rfl<|.no
     ·dsimp only
      refine .st rfl (cl (iv_New_k_1 h10) [] [2] [true] rfl (.i<|.nil) .nil (fresh_cons rfl fnil) (.cons (.v (.i<|.i<|.nil)) .nil) (ren_tupL (.p rfl<|.i<|.nil)) (.turned .nil) rfl) rfl<|.g 13 rfl<|.bind fun x70 h11=>.st rfl (cl (CC.h h11) [2] [] [true] rfl (.p rfl<|.a kD<|.nil) (.p rfl (.i<|.i<|.nil) .nil) fnil (.cons (.v (.i<|.i<|.nil)) .nil) (ren_agg (K:=kI) _) (.turned .nil) rfl) rfl<|.g 2 rfl<|.bind fun x71 h12=>.st rfl (cl (CC.h h12) [2] [] [true] rfl (.p rfl<|.a kI<|.i<|.nil) (.p rfl (.i<|.i<|.nil) .nil) fnil (.cons (.v (.i<|.i<|.nil)) .nil) (ren_agg (K:=kI) _) (.turned .nil) rfl) rfl<|.bind fun x72 h13=>.st rfl (cl (CC.h h13) [2] [] [true] rfl (.p rfl<|.a kI<|.nil) (.p rfl (.i<|.i<|.nil) .nil) fnil (.cons (.v (.i<|.i<|.nil)) .nil) (ren_agg (K:=kI) _) (.turned .nil) rfl) rfl<|.g 11 rfl<|?_
      refine .cut (fun x:Int × Bool × (List Int) × Int × Bool × (List Int) × Int=>(expo_Exp_j3 a1 x69 x.1 x.2.1 x.2.2.1 x.2.2.2.1 x.2.2.2.2.1 x.2.2.2.2.2.1 x.2.2.2.2.2.2,[eI 1 a1,eP 4 1,eP 9 2,eP 11 3],[(1,(.live 30 [(.bool false),(slK (kInt .u32) []),(.int .i64 0),(.bool false),(slK (kInt .u32) []),(.int .i64 0)])),(2,(.live 53 [(.int .i64 x.1),(.int .i64 x69.2.2)])),(3,(.live 30 [(.bool x.2.1),(slK (kInt .u32) x.2.2.1),(.int .i64 x.2.2.2.1),(.bool x.2.2.2.2.1),(slK (kInt .u32) x.2.2.2.2.2.1),(.int .i64 x.2.2.2.2.2.2)]))])) ?_ ?_
      ·rintro ⟨y95,y96,y97,y98,y99,y100,y101⟩
       dsimp only [expo_Exp_j3]
       refine .g 6 rfl<|.bind fun x102 h26=>.st rfl (cl (CC.h h26) [2] [] [false] rfl (.p rfl<|.a kI<|.i<|.nil) (.p rfl (.i<|.i<|.nil) .nil) fnil (.cons (.v (.i<|.i<|.nil)) .nil) (ren_tupL (.a kI<|.i<|.nil)) (.kept rfl .nil) rfl) rfl<|.g 7 rfl<|.fi rfl rfl
      ·intro h27
       refine .g 1 rfl<|?_
       refine .lp (fun n (x:Int × Int × Bool × (List Int) × Int × Bool × (List Int) × Int)=>expo_Exp_l4 y66 x69 a1 n x.1 x.2.1 x.2.2.1 x.2.2.2.1 x.2.2.2.2.1 x.2.2.2.2.2.1 x.2.2.2.2.2.2.1 x.2.2.2.2.2.2.2) (fun x=>([eI 1 a1,eP 4 1,eP 9 2,eP 11 3,eI 48 y66,eI 49 x.1],[(1,(.live 30 [(.bool false),(slK (kInt .u32) []),(.int .i64 0),(.bool false),(slK (kInt .u32) []),(.int .i64 0)])),(2,(.live 53 [(.int .i64 x.2.1),(.int .i64 x69.2.2)])),(3,(.live 30 [(.bool x.2.2.1),(slK (kInt .u32) x.2.2.2.1),(.int .i64 x.2.2.2.2.1),(.bool x.2.2.2.2.2.1),(slK (kInt .u32) x.2.2.2.2.2.2.1),(.int .i64 x.2.2.2.2.2.2.2)]))])) (0,x72.2,(((x72.1).Lo).M).Neg,(((x72.1).Lo).M).Mag,((x72.1).Lo).E,(((x72.1).Hi).M).Neg,(((x72.1).Hi).M).Mag,((x72.1).Hi).E) [(1,1),(2,2),(3,3)] rfl ?_
       rintro n4 ⟨y115,y116,y117,y118,y119,y120,y121,y122⟩
       try dsimp only
       rw [expo_Exp_l4]
       refine .g 6 rfl<|?_
       refine .cd rfl (fun _ _=>?_) fun _ _=>?_
       ·refine .g 8 rfl<|.bind fun x124 h39=>.st rfl (cl (CC.h h39) [2] [] [true] rfl (.p rfl<|.a kI<|.a kI<|.nil) (.p rfl (.i<|.i<|.nil) .nil) fnil (.cons (.v (.i<|.i<|.nil)) .nil) (ren_agg (K:=kI) _) (.turned .nil) rfl) rfl<|.g 8 rfl<|.ag ((IntKind.i64.wrap (y115+1)),x124.2,(((x124.1).Lo).M).Neg,(((x124.1).Lo).M).Mag,((x124.1).Lo).E,(((x124.1).Hi).M).Neg,(((x124.1).Hi).M).Mag,((x124.1).Hi).E) [(1,1),(2,2),(3,3)] rfl
       ·refine .g 4 rfl<|.jw (h27 (y116,y117,y118,y119,y120,y121,y122)) [(1,1),(2,2),(3,3)] rfl
    ·intro h40
     refine .cd rfl (fun _ _=>?_) fun _ _=>?_
     ·refine .g 6 rfl<|.jw (h40 (mx 0 (IntKind.i64.wrap (x64.1+3)))) [(0,0),(1,1)] rfl
     ·refine .g 1 rfl<|.jw (h40 0) [(0,0),(1,1)] rfl
  ·intro h43
   refine .g 3 rfl<|?_
   refine .gd 24 rfl (fun _=>?_) fun _=>?_
   ·refine .g 4 rfl<|.jw (h43 (decide (x64.1>11))) [(0,0),(1,1)] rfl
   ·refine .g 4 rfl<|.jw (h43 false) [(0,0),(1,1)] rfl
instance fun_plain_1_0379_i (a0:Int) (a1:AD) (a2:Int):CC (fun_plain_1_0379 a0 a1 a2) Tryz.prog 229 [(.int .i64 a0),(.agg (kD.enc a1)),(.int .i64 a2),(.iptr [(.fn 85 [] [])])] [] (fun r=>(.tup [(.agg (kI.enc (⟨⟨(((r.1).Lo).M),((r.1).Lo).E⟩,⟨(((r.1).Hi).M),((r.1).Hi).E⟩⟩:AI))),(.int .i64 r.2)])) (fun r=>[]):=cc func229 (by kernel_rfl) rfl fun E=>by
 unfold fun_plain_1_0379
 refine .g 12 rfl<|.p0 rfl rfl fun x2 _=>.g 7 rfl<|.fi rfl rfl
instance fun_Eval_i (a0:Int) (a1:Int) (a2:AD) (a3:Int):PC (fun_Eval a0 a1 a2 a3) Tryz.prog 17 [(.int .i64 a0),(.int .i64 a1),(.agg (kD.enc a2)),(.int .i64 a3)] (fun r=>(.tup [(.agg (kI.enc (⟨⟨(((r.1).Lo).M),((r.1).Lo).E⟩,⟨(((r.1).Hi).M),((r.1).Hi).E⟩⟩:AI))),(.int .i64 r.2)])):=pc func17 (by kernel_rfl) rfl fun E=>by
 unfold fun_Eval
 refine .g 14 rfl<|.p0 rfl rfl fun x4 _=>.g 9 rfl<|?_
 refine .cd rfl (fun _ _=>?_) fun _ _=>?_
 ·refine .g 10 rfl<|.fi rfl rfl
 ·refine .g 4 rfl<|.p0 rfl rfl fun x5 _=>.g 2 rfl<|?_
  refine .ite (fun h5=>?_) (fun h5=>?_)
  ·refine .sv (.iptr [(.bool false),(.int .i64 11),(.int .i64 0),(.int .i64 0),(.bool false),(.str (⟨#[101,120,112]⟩:ByteArray)),(.fn 229 [] [(.iptr [(.fn 85 [] [])])])]) [] rfl (snd_index_at 0 _ _ _ _ _ _ _ _ rfl underlying108 si107 rfl rfl rfl rfl (by intro e he; simp at he; rcases he with rfl | rfl | rfl | rfl | rfl | rfl | rfl | rfl | rfl | rfl<;>rfl) rfl h5 rfl) rfl<|.sv (.iptr [(.fn 229 [] [(.iptr [(.fn 85 [] [])])])]) [] rfl (snd_fieldAddr_i _ _ _ _ _ rfl fl107_2 rfl rfl rfl (Nat.le_of_ble_eq_true rfl)) rfl<|.g 4 rfl<|.bind fun x6 h6=>.st rfl (cl (CC.h h6) [] [] [] rfl (.i<|.a kD<|.i<|.cons (ren_iptrL (.cons (ren_fnL _ .nil .nil)<|.nil))<|.nil) .nil fnil .nil (ren_tupL (.a kI<|.i<|.nil)) .nil rfl) rfl<|.g 4 rfl<|.dn (by kernel_rfl)<|.g 2 rfl<|.fi rfl rfl
  ·refine .ite (fun h7=>?_) (fun h7=>?_)
   ·refine .sv (.iptr [(.bool true),(.int .i64 0),(.int .i64 0),(.int .i64 0),(.bool false),(.str (⟨#[108,110]⟩:ByteArray)),(.fn 229 [] [(.iptr [(.fn 148 [] [])])])]) [] rfl (snd_index_at 1 _ _ _ _ _ _ _ _ rfl underlying108 si107 rfl rfl rfl rfl (by intro e he; simp at he; rcases he with rfl | rfl | rfl | rfl | rfl | rfl | rfl | rfl | rfl | rfl<;>rfl) rfl h7 rfl) rfl<|.sv (.iptr [(.fn 229 [] [(.iptr [(.fn 148 [] [])])])]) [] rfl (snd_fieldAddr_i _ _ _ _ _ rfl fl107_2 rfl rfl rfl (Nat.le_of_ble_eq_true rfl)) rfl<|.g 4 rfl<|.no
   ·refine .ite (fun h8=>?_) (fun h8=>?_)
    ·refine .sv (.iptr [(.bool false),(.int .i64 11),(.int .i64 0),(.int .i64 0),(.bool false),(.str (⟨#[115,105,110]⟩:ByteArray)),(.fn 229 [] [(.iptr [(.fn 149 [] [])])])]) [] rfl (snd_index_at 2 _ _ _ _ _ _ _ _ rfl underlying108 si107 rfl rfl rfl rfl (by intro e he; simp at he; rcases he with rfl | rfl | rfl | rfl | rfl | rfl | rfl | rfl | rfl | rfl<;>rfl) rfl h8 rfl) rfl<|.sv (.iptr [(.fn 229 [] [(.iptr [(.fn 149 [] [])])])]) [] rfl (snd_fieldAddr_i _ _ _ _ _ rfl fl107_2 rfl rfl rfl (Nat.le_of_ble_eq_true rfl)) rfl<|.g 4 rfl<|.no
    ·refine .ite (fun h9=>?_) (fun h9=>?_)
     ·refine .sv (.iptr [(.bool false),(.int .i64 11),(.int .i64 0),(.int .i64 0),(.bool false),(.str (⟨#[99,111,115]⟩:ByteArray)),(.fn 229 [] [(.iptr [(.fn 101 [] [])])])]) [] rfl (snd_index_at 3 _ _ _ _ _ _ _ _ rfl underlying108 si107 rfl rfl rfl rfl (by intro e he; simp at he; rcases he with rfl | rfl | rfl | rfl | rfl | rfl | rfl | rfl | rfl | rfl<;>rfl) rfl h9 rfl) rfl<|.sv (.iptr [(.fn 229 [] [(.iptr [(.fn 101 [] [])])])]) [] rfl (snd_fieldAddr_i _ _ _ _ _ rfl fl107_2 rfl rfl rfl (Nat.le_of_ble_eq_true rfl)) rfl<|.g 4 rfl<|.no
     ·refine .ite (fun h10=>?_) (fun h10=>?_)
      ·refine .sv (.iptr [(.bool false),(.int .i64 0),(.int .i64 0),(.int .i64 0),(.bool false),(.str (⟨#[97,116,97,110]⟩:ByteArray)),(.fn 229 [] [(.iptr [(.fn 150 [] [])])])]) [] rfl (snd_index_at 4 _ _ _ _ _ _ _ _ rfl underlying108 si107 rfl rfl rfl rfl (by intro e he; simp at he; rcases he with rfl | rfl | rfl | rfl | rfl | rfl | rfl | rfl | rfl | rfl<;>rfl) rfl h10 rfl) rfl<|.sv (.iptr [(.fn 229 [] [(.iptr [(.fn 150 [] [])])])]) [] rfl (snd_fieldAddr_i _ _ _ _ _ rfl fl107_2 rfl rfl rfl (Nat.le_of_ble_eq_true rfl)) rfl<|.g 4 rfl<|.no
      ·refine .ite (fun h11=>?_) (fun h11=>?_)
       ·refine .sv (.iptr [(.bool false),(.int .i64 0),(.int .i64 6),(.int .i64 0),(.bool false),(.str (⟨#[101,114,102]⟩:ByteArray)),(.fn 229 [] [(.iptr [(.fn 151 [] [])])])]) [] rfl (snd_index_at 5 _ _ _ _ _ _ _ _ rfl underlying108 si107 rfl rfl rfl rfl (by intro e he; simp at he; rcases he with rfl | rfl | rfl | rfl | rfl | rfl | rfl | rfl | rfl | rfl<;>rfl) rfl h11 rfl) rfl<|.sv (.iptr [(.fn 229 [] [(.iptr [(.fn 151 [] [])])])]) [] rfl (snd_fieldAddr_i _ _ _ _ _ rfl fl107_2 rfl rfl rfl (Nat.le_of_ble_eq_true rfl)) rfl<|.g 4 rfl<|.no
       ·refine .ite (fun h12=>?_) (fun h12=>?_)
        ·refine .sv (.iptr [(.bool false),(.int .i64 0),(.int .i64 6),(.int .i64 0),(.bool false),(.str (⟨#[101,114,102,99]⟩:ByteArray)),(.fn 229 [] [(.iptr [(.fn 152 [] [])])])]) [] rfl (snd_index_at 6 _ _ _ _ _ _ _ _ rfl underlying108 si107 rfl rfl rfl rfl (by intro e he; simp at he; rcases he with rfl | rfl | rfl | rfl | rfl | rfl | rfl | rfl | rfl | rfl<;>rfl) rfl h12 rfl) rfl<|.sv (.iptr [(.fn 229 [] [(.iptr [(.fn 152 [] [])])])]) [] rfl (snd_fieldAddr_i _ _ _ _ _ rfl fl107_2 rfl rfl rfl (Nat.le_of_ble_eq_true rfl)) rfl<|.g 4 rfl<|.no
        ·refine .ite (fun h13=>?_) (fun h13=>?_)
         ·refine .sv (.iptr [(.bool true),(.int .i64 0),(.int .i64 64),(.int .i64 64),(.bool false),(.str (⟨#[103,97,109,109,97]⟩:ByteArray)),(.fn 229 [] [(.iptr [(.fn 153 [] [])])])]) [] rfl (snd_index_at 7 _ _ _ _ _ _ _ _ rfl underlying108 si107 rfl rfl rfl rfl (by intro e he; simp at he; rcases he with rfl | rfl | rfl | rfl | rfl | rfl | rfl | rfl | rfl | rfl<;>rfl) rfl h13 rfl) rfl<|.sv (.iptr [(.fn 229 [] [(.iptr [(.fn 153 [] [])])])]) [] rfl (snd_fieldAddr_i _ _ _ _ _ rfl fl107_2 rfl rfl rfl (Nat.le_of_ble_eq_true rfl)) rfl<|.g 4 rfl<|.no
         ·refine .ite (fun h14=>?_) (fun h14=>?_)
          ·refine .sv (.iptr [(.bool true),(.int .i64 0),(.int .i64 64),(.int .i64 64),(.bool false),(.str (⟨#[108,103,97,109,109,97]⟩:ByteArray)),(.fn 229 [] [(.iptr [(.fn 154 [] [])])])]) [] rfl (snd_index_at 8 _ _ _ _ _ _ _ _ rfl underlying108 si107 rfl rfl rfl rfl (by intro e he; simp at he; rcases he with rfl | rfl | rfl | rfl | rfl | rfl | rfl | rfl | rfl | rfl<;>rfl) rfl h14 rfl) rfl<|.sv (.iptr [(.fn 229 [] [(.iptr [(.fn 154 [] [])])])]) [] rfl (snd_fieldAddr_i _ _ _ _ _ rfl fl107_2 rfl rfl rfl (Nat.le_of_ble_eq_true rfl)) rfl<|.g 4 rfl<|.no
          ·refine .ite (fun h15=>?_) (fun h15=>?_)
           ·refine .sv (.iptr [(.bool false),(.int .i64 0),(.int .i64 32),(.int .i64 0),(.bool true),(.str (⟨#[98,101,115,115,101,108]⟩:ByteArray)),(.fn 155 [] [])]) [] rfl (snd_index_at 9 _ _ _ _ _ _ _ _ rfl underlying108 si107 rfl rfl rfl rfl (by intro e he; simp at he; rcases he with rfl | rfl | rfl | rfl | rfl | rfl | rfl | rfl | rfl | rfl<;>rfl) rfl h15 rfl) rfl<|.sv (.iptr [(.fn 155 [] [])]) [] rfl (snd_fieldAddr_i _ _ _ _ _ rfl fl107_2 rfl rfl rfl (Nat.le_of_ble_eq_true rfl)) rfl<|.g 4 rfl<|.no
           ·exact .no
instance r01_Trim_i (a0:List Int):PC (r01_Trim a0) Tryz.prog 129 [(slK (kInt .u32) a0)] (fun r=>(slK (kInt .u32) r)):=pc func129 (by kernel_rfl) rfl fun E=>by
 unfold r01_Trim
 refine .g 8 rfl<|.ln rfl rfl<|.g 4 rfl<|?_
 refine .cut (fun x:Int=>(r01_Trim_j1 a0 x,[eL 0 a0,eI 3 x],[])) ?_ ?_
 ·rintro y17
  dsimp only [r01_Trim_j1]
  refine .g 11 rfl<|.guard fun h19=>.sv (slK (kInt .u32) (a0.take y17.toNat)) [] rfl (snd_sliceK (kInt .u32) _ _ _ _ _ _ 0 y17 rfl underlying22 si117 rfl rfl rfl rfl rfl h19) rfl<|.guard fun h20=>.sv (grA (kInt .u32) 0 (a0.take y17.toNat)) [(0,(grV (kInt .u32) 117 (a0.take y17.toNat)))] rfl (snd_appendK_nil0 (kInt .u32) _ _ _ _ _ 0 (a0.take y17.toNat) rfl underlying22 ze117 sb117 rfl rfl rfl rfl rfl h20) rfl<|.g 4 rfl<|?_
  refine .weak ?_ (fun a w h=>Conc.gr_still (kInt .u32) h 2 0 117 (a0.take y17.toNat) rfl rfl)
  exact .fi rfl rfl
 ·intro h21
  refine .g 1 rfl<|?_
  refine .lp (fun n (x:Int)=>r01_Trim_l2 a0 n x) (fun x=>([eL 0 a0,eI 3 x],[])) (a0.length:Int) [] rfl ?_
  rintro n2 y21
  try dsimp only
  rw [r01_Trim_l2]
  refine .g 2 rfl<|?_
  refine .cut (fun x:Bool=>(r01_Trim_j3 (fun z0=>r01_Trim_l2 a0 n2 z0) y21 a0 x,[eL 0 a0,eI 3 y21,eB 16 x],[])) ?_ ?_
  ·rintro y22
   dsimp only [r01_Trim_j3]
   refine .g 1 rfl<|?_
   refine .cd rfl (fun _ _=>?_) fun _ _=>?_
   ·refine .g 9 rfl<|.ag (IntKind.i64.wrap (y21-1)) [] rfl
   ·refine .g 4 rfl<|.jw (h21 y21) [] rfl
  ·intro h38
   refine .g 4 rfl<|?_
   refine .gd 9 rfl (fun _=>?_) fun _=>?_
   ·refine .g 3 rfl<|.ix rfl rfl<|.g 4 rfl<|.jw (h38 ((a0.getD ((IntKind.i64.wrap (y21-1)).toNat) (kInt .u32).z) == 0)) [] rfl
   ·refine .g 8 rfl<|.jw (h38 false) [] rfl
instance r01_From_i (a0:Int):PC (r01_From a0) Tryz.prog 139 [(.int .u64 a0)] (fun r=>(slK (kInt .u32) r)):=pc func139 (by kernel_rfl) rfl fun E=>by
 unfold r01_From
 refine .g 2 rfl<|.st rfl (as0 rfl) rfl<|.g 9 rfl<|.st rfl (bs (kInt .u32) [(IntKind.u32.wrap a0),(IntKind.u32.wrap (shrI .u64 a0 32))] rfl rfl) rfl<|.p0 rfl rfl fun x2 _=>.g 4 rfl<|.fi rfl rfl
instance r04_Make_i (a0:Bool) (a1:List Int):PC (r04_Make a0 a1) Tryz.prog 48 [(.bool a0),(slK (kInt .u32) a1)] (fun r=>(.agg (kN.enc (r)))):=pc func48 (by kernel_rfl) rfl fun E=>by
 unfold r04_Make
 refine .g 8 rfl<|.p0 rfl rfl fun x3 _=>.g 4 rfl<|?_
 refine .cut (fun x:Bool=>(r04_Make_j1 x3 x,[eP 4 0],[(0,(.live 24 [(.bool x),(slK (kInt .u32) x3)]))])) ?_ ?_
 ·rintro y4
  dsimp only [r04_Make_j1]
  refine .g 2 rfl<|.fi rfl rfl
 ·intro h3
  refine .g 3 rfl<|?_
  refine .gd 9 rfl (fun _=>?_) fun _=>?_
  ·refine .g 1 rfl<|.ln rfl rfl<|.g 6 rfl<|.jw (h3 (decide ((x3.length:Int)>0))) [(0,0)] rfl
  ·refine .g 8 rfl<|.jw (h3 false) [(0,0)] rfl
instance r04_From_i (a0:Int):PC (r04_From a0) Tryz.prog 56 [(.int .i64 a0)] (fun r=>(.agg (kN.enc (r)))):=pc func56 (by kernel_rfl) rfl fun E=>by
 unfold r04_From
 refine .g 12 rfl<|?_
 refine .cd rfl (fun _ _=>?_) fun _ _=>?_
 ·refine .g 7 rfl<|.p0 rfl rfl fun x5 _=>.p0 rfl rfl fun x6 _=>.g 5 rfl<|.fi rfl rfl
 ·refine .g 6 rfl<|.p0 rfl rfl fun x7 _=>.p0 rfl rfl fun x8 _=>.g 4 rfl<|.fi rfl rfl
instance r01_Bit_i (a0:List Int) (a1:Int):PC (r01_Bit a0 a1) Tryz.prog 220 [(slK (kInt .u32) a0),(.int .i64 a1)] (fun r=>(.bool r)):=pc func220 (by kernel_rfl) rfl fun E=>by
 unfold r01_Bit
 refine .g 7 rfl<|?_
 refine .cut (fun x:Bool=>(r01_Bit_j1 a1 a0 x,[eL 0 a0,eI 1 a1,eB 13 x],[])) ?_ ?_
 ·rintro y2
  dsimp only [r01_Bit_j1]
  refine .g 1 rfl<|?_
  refine .cd rfl (fun _ _=>?_) fun _ _=>?_
  ·refine .g 7 rfl<|.fi rfl rfl
  ·refine .g 7 rfl<|.ix rfl rfl<|.g 3 rfl<|.guard fun h5=>.st rfl (snd_shr _ _ _ _ _ _ _ _ rfl rfl rfl rfl rfl h5) rfl<|.g 6 rfl<|.fi rfl rfl
 ·intro h6
  refine .g 4 rfl<|?_
  refine .gd 7 rfl (fun _=>?_) fun _=>?_
  ·refine .g 7 rfl<|.jw (h6 true) [] rfl
  ·refine .g 3 rfl<|.ln rfl rfl<|.g 3 rfl<|.jw (h6 (decide ((IntKind.i64.wrap (a1.tdiv 32))≥(a0.length:Int)))) [] rfl
instance r01_at_i (a0:List Int) (a1:Int):PC (r01_at a0 a1) Tryz.prog 300 [(slK (kInt .u32) a0),(.int .i64 a1)] (fun r=>(.int .u64 r)):=pc func300 (by kernel_rfl) rfl fun E=>by
 unfold r01_at
 refine .g 10 rfl<|.ln rfl rfl<|.g 3 rfl<|?_
 refine .cd rfl (fun _ _=>?_) fun _ _=>?_
 ·refine .g 7 rfl<|.fi rfl rfl
 ·refine .g 6 rfl<|.ix rfl rfl<|.g 6 rfl<|.fi rfl rfl
instance r01_Shr_i (a0:List Int) (a1:Int):PC (r01_Shr a0 a1) Tryz.prog 221 [(slK (kInt .u32) a0),(.int .i64 a1)] (fun r=>(slK (kInt .u32) r)):=pc func221 (by kernel_rfl) rfl fun E=>by
 unfold r01_Shr
 refine .g 12 rfl<|?_
 refine .cd rfl (fun _ _=>?_) fun _ _=>?_
 ·refine .g 3 rfl<|.p0 rfl rfl fun x36 _=>.g 5 rfl<|.fi rfl rfl
 ·refine .g 8 rfl<|.ln rfl rfl<|.g 3 rfl<|?_
  refine .cd rfl (fun _ _=>?_) fun _ _=>?_
  ·refine .g 7 rfl<|.fj rfl rfl (by exact AVle.nil)
  ·refine .g 15 rfl<|?_
   refine .cut (fun x:(List Int)=>(r01_Shr_j1 x,[(5,some (grA (kInt .u32) 0 x))],[(0,(grV (kInt .u32) 117 x))])) ?_ ?_
   ·rintro y53
    dsimp only [r01_Shr_j1]
    refine .g 2 rfl<|?_
    refine .weak ?_ (fun a w h=>Conc.gr_still (kInt .u32) h 5 0 117 y53 rfl rfl)
    refine .g 2 rfl<|.p0 rfl rfl fun x54 _=>.g 4 rfl<|.fi rfl rfl
   ·intro h37
    refine .g 1 rfl<|?_
    refine .weak ?_ (fun a w h=>Conc.gr_nil (kInt .u32) h 5 0 117 rfl)
    refine .lo (fun n (x:Int × (List Int))=>r01_Shr_l2 a0 a1 n x.1 x.2) (fun x=>([eL 0 a0,eI 1 a1,(5,some (grA (kInt .u32) 0 x.2)),eI 6 x.1],[(0,(grV (kInt .u32) 117 x.2))])) ((IntKind.i64.wrap (a1.tdiv 32)),[]) rfl (fun hE=>jn (m:=0) [(0,0)] hE (.l rfl<|.i rfl<|.g rfl (ren_gr (K:=(kInt .u32)) (by rfl) [])<|.i rfl<|.nil) (.cons (.refl _) (renV_gr (K:=(kInt .u32)) 117 [])<|.nil) rfl) ?_
    rintro n2 ⟨y65,y66⟩
    try dsimp only
    rw [r01_Shr_l2]
    refine .g 5 rfl<|.ln rfl rfl<|.g 3 rfl<|?_
    refine .cd rfl (fun _ _=>?_) fun _ _=>?_
    ·refine .g 8 rfl<|.p0 rfl rfl fun x69 _=>.g 3 rfl<|.p0 rfl rfl fun x70 _=>.g 10 rfl<|.guard fun h66=>.st rfl (snd_shr _ _ _ _ _ _ _ _ rfl rfl rfl rfl rfl h66) rfl<|.g 1 rfl<|.st rfl (bs (kInt .u32) [(IntKind.u32.wrap (shrI .u64 (orI .u64 x69 (shlI .u64 x70 32)) (a1.tmod 32)))] rfl rfl) rfl<|.guard fun h67=>.sv (.row 1 (kInt .u32).sz 0 (((y66++[(IntKind.u32.wrap (shrI .u64 (orI .u64 x69 (shlI .u64 x70 32)) (a1.tmod 32)))])).length)) [(1,(rwK (kInt .u32) 117 (y66++[(IntKind.u32.wrap (shrI .u64 (orI .u64 x69 (shlI .u64 x70 32)) (a1.tmod 32)))]))),(0,.dead)] rfl (snd_appendK_gr (kInt .u32) _ _ _ _ _ 0 1 y66 [(IntKind.u32.wrap (shrI .u64 (orI .u64 x69 (shlI .u64 x70 32)) (a1.tmod 32)))] rfl underlying22 ze117 sb117 rfl rfl rfl rfl rfl rfl rfl h67) rfl<|.g 9 rfl<|?_
     refine .weak ?_ (fun a w h=>Conc.gr_row (kInt .u32) h 5 1 117 (y66++[(IntKind.u32.wrap (shrI .u64 (orI .u64 x69 (shlI .u64 x70 32)) (a1.tmod 32)))]) rfl rfl (by first | omega | (simp only [List.length_append,List.length_cons,List.length_set]; omega) | simp))
     exact .ao ((IntKind.i64.wrap (y65+1)),(y66++[(IntKind.u32.wrap (shrI .u64 (orI .u64 x69 (shlI .u64 x70 32)) (a1.tmod 32)))])) rfl fun hE=>jn (m:=0) [(1,0)] hE (.l rfl<|.i rfl<|.g rfl (ren_gr (K:=(kInt .u32)) (by rfl) (y66++[(IntKind.u32.wrap (shrI .u64 (orI .u64 x69 (shlI .u64 x70 32)) (a1.tmod 32)))]))<|.i rfl<|.nil) (.cons (.refl _) (renV_gr (K:=(kInt .u32)) 117 (y66++[(IntKind.u32.wrap (shrI .u64 (orI .u64 x69 (shlI .u64 x70 32)) (a1.tmod 32)))]))<|.nil) rfl
    ·refine .g 4 rfl<|.jo (h37 y66) rfl fun hE=>jn (m:=0) [(0,0)] hE (.g rfl (ren_gr (K:=(kInt .u32)) (by rfl) y66)<|.nil) (.cons (.refl _) (renV_gr (K:=(kInt .u32)) 117 y66)<|.nil) rfl
end Go.Proofs.YtoakhpdeadglpaaGreat.Gen
