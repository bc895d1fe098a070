/- Printed by geng.py: a call does what the plain function says. -/
import Derived.Test.YtjfcghliglfapabGreatGammStepGenP2
set_option linter.unusedVariables false
set_option linter.unusedSimpArgs false
set_option maxRecDepth 4000
namespace Go.Proofs.YtjfcghliglfapabGreat.Gen
open Go Go.Abs Go.Proofs Go.Proofs.Tryz
instance cv_four_e8e7_i (a0:AI) (a1:AI) (a2:Int) (a3:Int) (a4:Bool):CC (cv_four_e8e7 a0 a1 a2 a3 a4) Tryz.prog 89 [(.ptr 0 0),(.agg (kI.enc a0)),(.agg (kI.enc a1)),(.fn 123 [] [(.ptr 1 0),(.ptr 2 0)])] [(.live 47 [(.int .i64 a2),(.int .i64 a3)]),(.live 29 [(.ptr 0 0)]),(.live 4 [(.bool a4)])] (fun r=>(slK kD r.1)) (fun r=>[(.live 47 [(.int .i64 r.2),(.int .i64 a3)]),(.live 29 [(.ptr 0 0)]),(.live 4 [(.bool a4)])]):=cc func89 (by kernel_rfl) rfl fun E=>by
 unfold cv_four_e8e7
 refine .g 13 rfl<|.st rfl (bs kD [a0.Lo,a0.Hi] rfl rfl) rfl<|.g 4 rfl<|.st rfl (bs kD [a1.Lo,a1.Hi] rfl rfl) rfl<|.g 2 rfl<|.dn (by kernel_rfl)<|.g 8 rfl<|.p0 rfl rfl fun x487 _=>.g 3 rfl<|?_
 refine .cut (fun x:(List AD)=>(cv_four_e8e7_j1 a1 a3 a4 a2 x,[eP 0 0,(3,some (.fn 123 [] [(.ptr 1 0),(.ptr 2 0)])),eP 6 4,eK kD 9 x,eK kD 10 [a1.Lo,a1.Hi]],[(0,(.live 47 [(.int .i64 a2),(.int .i64 a3)])),(1,(.live 29 [(.ptr 0 0)])),(2,(.live 4 [(.bool a4)])),(4,(.live 37 [(.bool a1.Lo.M.Neg),(slK (kInt .u32) a1.Lo.M.Mag),(.int .i64 a1.Lo.E),(.bool a1.Hi.M.Neg),(slK (kInt .u32) a1.Hi.M.Mag),(.int .i64 a1.Hi.E)]))])) ?_ ?_
 ·rintro y488
  dsimp only [cv_four_e8e7_j1]
  refine .g 8 rfl<|.p0 rfl rfl fun x489 _=>.g 3 rfl<|?_
  refine .cut (fun x:(List AD)=>(cv_four_e8e7_j2 y488 a3 a4 a2 x,[eP 0 0,(3,some (.fn 123 [] [(.ptr 1 0),(.ptr 2 0)])),eK kD 9 y488,eK kD 10 x],[(0,(.live 47 [(.int .i64 a2),(.int .i64 a3)])),(1,(.live 29 [(.ptr 0 0)])),(2,(.live 4 [(.bool a4)]))])) ?_ ?_
  ·rintro y490
   dsimp only [cv_four_e8e7_j2]
   refine .g 10 rfl<|.ln rfl rfl<|.g 3 rfl<|?_
   refine .cut (fun x:Int × (List AD)=>(cv_four_e8e7_j3 x.1 x.2,[(11,some (grA kD 3 x.2))],[(0,(.live 47 [(.int .i64 x.1),(.int .i64 a3)])),(1,(.live 29 [(.ptr 0 0)])),(2,(.live 4 [(.bool a4)])),(3,(grV kD 26 x.2))])) ?_ ?_
   ·rintro ⟨y731,y732⟩
    dsimp only [cv_four_e8e7_j3]
    refine .g 8 rfl<|?_
    refine .weak ?_ (fun a w h=>Conc.gr_still kD h 8 3 26 y732 rfl rfl)
    exact .fi rfl rfl
   ·intro h381
    refine .g 1 rfl<|?_
    refine .weak ?_ (fun a w h=>Conc.gr_nil kD h 11 3 26 rfl)
    refine .lo (fun n (x:Int × Int × (List AD))=>cv_four_e8e7_l4 y488 y490 a3 a4 n x.1 x.2.1 x.2.2) (fun x=>([eP 0 0,(3,some (.fn 123 [] [(.ptr 1 0),(.ptr 2 0)])),eK kD 10 y490,(11,some (grA kD 3 x.2.2)),eK kD 42 y488,eI 43 (y488.length:Int),eI 44 x.1],[(0,(.live 47 [(.int .i64 x.2.1),(.int .i64 a3)])),(1,(.live 29 [(.ptr 0 0)])),(2,(.live 4 [(.bool a4)])),(3,(grV kD 26 x.2.2))])) (0,a2,[]) rfl (fun hE=>jn (m:=3) [(0,0),(1,1),(2,2),(3,3)] hE (.p rfl rfl<|.g rfl (ren_fnL _ .nil (.p rfl<|.p rfl<|.nil))<|.l rfl<|.g rfl (ren_gr (K:=kD) (by rfl) [])<|.l rfl<|.i rfl<|.i rfl<|.nil) (.v rfl (.i<|.i<|.nil)<|.v rfl (.p rfl<|.nil)<|.v rfl (.b<|.nil)<|.cons (.refl _) (renV_gr (K:=kD) 26 [])<|.nil) rfl) ?_
    rintro n4 ⟨y892,y893,y894⟩
    try dsimp only
    rw [cv_four_e8e7_l4]
    refine .g 6 rfl<|?_
    refine .cd rfl (fun _ _=>?_) fun _ _=>?_
    ·refine .g 3 rfl<|?_
     refine .cut (fun x:Int × (List AD)=>(cv_four_e8e7_j5 (fun z0 z1 z2=>cv_four_e8e7_l4 y488 y490 a3 a4 n4 z0 z1 z2) y892 x.1 x.2,[eP 0 0,(3,some (.fn 123 [] [(.ptr 1 0),(.ptr 2 0)])),eK kD 10 y490,(11,some (grA kD 3 x.2)),eK kD 42 y488,eI 43 (y488.length:Int),eI 44 y892],[(0,(.live 47 [(.int .i64 x.1),(.int .i64 a3)])),(1,(.live 29 [(.ptr 0 0)])),(2,(.live 4 [(.bool a4)])),(3,(grV kD 26 x.2))])) ?_ ?_
     ·rintro ⟨y933,y934⟩
      dsimp only [cv_four_e8e7_j5]
      refine .g 5 rfl<|.ao ((IntKind.i64.wrap (y892+1)),y933,y934) rfl fun hE=>jn (m:=3) [(0,0),(1,1),(2,2),(3,3)] hE (.p rfl rfl<|.g rfl (ren_fnL _ .nil (.p rfl<|.p rfl<|.nil))<|.l rfl<|.g rfl (ren_gr (K:=kD) (by rfl) y934)<|.l rfl<|.i rfl<|.i rfl<|.nil) (.v rfl (.i<|.i<|.nil)<|.v rfl (.p rfl<|.nil)<|.v rfl (.b<|.nil)<|.cons (.refl _) (renV_gr (K:=kD) 26 y934)<|.nil) rfl
     ·intro h693
      refine .g 3 rfl<|.ix rfl rfl<|.g 8 rfl<|.ln rfl rfl<|.g 3 rfl<|?_
      refine .cut (fun x:Int × (List AD)=>(cv_four_e8e7_j6 (fun z0 z1 z2=>cv_four_e8e7_l4 y488 y490 a3 a4 n4 z0 z1 z2) y892 x.1 x.2,[eP 0 0,(3,some (.fn 123 [] [(.ptr 1 0),(.ptr 2 0)])),eK kD 10 y490,(11,some (grA kD 3 x.2)),eK kD 42 y488,eI 43 (y488.length:Int),eI 44 y892],[(0,(.live 47 [(.int .i64 x.1),(.int .i64 a3)])),(1,(.live 29 [(.ptr 0 0)])),(2,(.live 4 [(.bool a4)])),(3,(grV kD 26 x.2))])) ?_ ?_
      ·rintro ⟨y953,y954⟩
       dsimp only [cv_four_e8e7_j6]
       refine .g 1 rfl<|.jo (h693 (y953,y954)) rfl fun hE=>jn (m:=3) [(0,0),(1,1),(2,2),(3,3)] hE (.p rfl rfl<|.g rfl (ren_fnL _ .nil (.p rfl<|.p rfl<|.nil))<|.l rfl<|.g rfl (ren_gr (K:=kD) (by rfl) y954)<|.l rfl<|.i rfl<|.i rfl<|.nil) (.v rfl (.i<|.i<|.nil)<|.v rfl (.p rfl<|.nil)<|.v rfl (.b<|.nil)<|.cons (.refl _) (renV_gr (K:=kD) 26 y954)<|.nil) rfl
      ·intro h725
       refine .g 1 rfl<|?_
       refine .lo (fun n (x:Int × Int × (List AD))=>cv_four_e8e7_l7 y490 y488 y892 a3 a4 (fun z0 z1 z2=>cv_four_e8e7_l4 y488 y490 a3 a4 n4 z0 z1 z2) n x.1 x.2.1 x.2.2) (fun x=>([eP 0 0,(3,some (.fn 123 [] [(.ptr 1 0),(.ptr 2 0)])),eK kD 10 y490,(11,some (grA kD 3 x.2.2)),eP 13 4,eK kD 42 y488,eI 43 (y488.length:Int),eI 44 y892,eK kD 48 y490,eI 49 (y490.length:Int),eI 50 x.1],[(0,(.live 47 [(.int .i64 x.2.1),(.int .i64 a3)])),(1,(.live 29 [(.ptr 0 0)])),(2,(.live 4 [(.bool a4)])),(3,(grV kD 26 x.2.2)),(4,(.live 26 [(.bool (((y488.getD y892.toNat zAD).M).Neg)),(slK (kInt .u32) (((y488.getD y892.toNat zAD).M).Mag)),(.int .i64 ((y488.getD y892.toNat zAD).E))]))])) (0,y893,y894) rfl (fun hE=>jn (m:=3) [(0,0),(1,1),(2,2),(3,3),(4,4)] hE (.p rfl rfl<|.g rfl (ren_fnL _ .nil (.p rfl<|.p rfl<|.nil))<|.l rfl<|.g rfl (ren_gr (K:=kD) (by rfl) y894)<|.p rfl rfl<|.l rfl<|.i rfl<|.i rfl<|.l rfl<|.i rfl<|.i rfl<|.nil) (.v rfl (.i<|.i<|.nil)<|.v rfl (.p rfl<|.nil)<|.v rfl (.b<|.nil)<|.cons (.refl _) (renV_gr (K:=kD) 26 y894)<|.v rfl (.b<|.l<|.i<|.nil)<|.nil) rfl) ?_
       rintro n7 ⟨y966,y967,y968⟩
       try dsimp only
       rw [cv_four_e8e7_l7]
       refine .g 6 rfl<|?_
       refine .cd rfl (fun _ _=>?_) fun _ _=>?_
       ·refine .g 6 rfl<|.ix rfl rfl<|.g 11 rfl<|.bind fun x971 h753=>.st rfl (cl (CC.h h753) [1,0,2] [] [false,false,false] rfl (.a kD<|.a kD<|.p rfl<|.p rfl<|.nil) (.p rfl (.p rfl<|.nil) (.p rfl (.i<|.i<|.nil) (.p rfl (.b<|.nil) .nil))) fnil (.cons (.v (.p rfl<|.nil)) (.cons (.v (.i<|.i<|.nil)) (.cons (.v (.b<|.nil)) .nil))) (ren_tupL (.a kD<|.i<|.nil)) (.kept rfl (.kept rfl (.kept rfl .nil))) rfl) rfl<|.g 2 rfl<|.bind fun x972 h754=>.st rfl (cl (CC.h h754) [0] [] [true] rfl (.p rfl<|.a kD<|.i<|.nil) (.p rfl (.i<|.i<|.nil) .nil) fnil (.cons (.v (.i<|.i<|.nil)) .nil) (ren_agg (K:=kD) _) (.turned .nil) rfl) rfl<|.st rfl (bs kD [(⟨((x972.1).M),(x972.1).E⟩:AD)] rfl rfl) rfl<|.guard fun h755=>.sv (.row 6 kD.sz 0 (((y968++[(⟨((x972.1).M),(x972.1).E⟩:AD)])).length)) [(6,(rwK kD 26 (y968++[(⟨((x972.1).M),(x972.1).E⟩:AD)]))),(3,.dead)] rfl (snd_appendK_gr kD _ _ _ _ _ 3 6 y968 [(⟨((x972.1).M),(x972.1).E⟩:AD)] rfl underlying97 ze26 sb26 rfl rfl rfl rfl rfl rfl rfl h755) rfl<|.g 8 rfl<|?_
        refine .weak ?_ (fun a w h=>Conc.gr_row kD h 11 6 26 (y968++[(⟨((x972.1).M),(x972.1).E⟩:AD)]) rfl rfl (by first | omega | (simp only [List.length_append,List.length_cons,List.length_set]; omega) | simp))
        exact .ao ((IntKind.i64.wrap (y966+1)),x972.2,(y968++[(⟨((x972.1).M),(x972.1).E⟩:AD)])) rfl fun hE=>jn (m:=3) [(0,0),(1,1),(2,2),(6,3),(4,4)] hE (.p rfl rfl<|.g rfl (ren_fnL _ .nil (.p rfl<|.p rfl<|.nil))<|.l rfl<|.g rfl (ren_gr (K:=kD) (by rfl) (y968++[(⟨((x972.1).M),(x972.1).E⟩:AD)]))<|.p rfl rfl<|.l rfl<|.i rfl<|.i rfl<|.l rfl<|.i rfl<|.i rfl<|.nil) (.v rfl (.i<|.i<|.nil)<|.v rfl (.p rfl<|.nil)<|.v rfl (.b<|.nil)<|.cons (.refl _) (renV_gr (K:=kD) 26 (y968++[(⟨((x972.1).M),(x972.1).E⟩:AD)]))<|.v rfl (.b<|.l<|.i<|.nil)<|.nil) rfl
       ·refine .g 4 rfl<|.jo (h725 (y967,y968)) rfl fun hE=>jn (m:=3) [(0,0),(1,1),(2,2),(3,3)] hE (.p rfl rfl<|.g rfl (ren_fnL _ .nil (.p rfl<|.p rfl<|.nil))<|.l rfl<|.g rfl (ren_gr (K:=kD) (by rfl) y968)<|.l rfl<|.i rfl<|.i rfl<|.nil) (.v rfl (.i<|.i<|.nil)<|.v rfl (.p rfl<|.nil)<|.v rfl (.b<|.nil)<|.cons (.refl _) (renV_gr (K:=kD) 26 y968)<|.nil) rfl
    ·refine .g 4 rfl<|.jo (h381 (y893,y894)) rfl fun hE=>jn (m:=3) [(0,0),(1,1),(2,2),(3,3)] hE (.g rfl (ren_gr (K:=kD) (by rfl) y894)<|.nil) (.v rfl (.i<|.i<|.nil)<|.v rfl (.p rfl<|.nil)<|.v rfl (.b<|.nil)<|.cons (.refl _) (renV_gr (K:=kD) 26 y894)<|.nil) rfl
  ·intro h756
   refine .cd rfl (fun _ _=>?_) fun _ _=>?_
   ·refine .g 2 rfl<|.guard fun h759=>.sv (slK kD ([a1.Lo,a1.Hi].take 1)) [] rfl (snd_sliceK kD _ _ _ _ _ _ 0 1 rfl underlying97 si26 rfl rfl rfl rfl rfl h759) rfl<|.g 2 rfl<|.jw (h756 ([a1.Lo,a1.Hi].take 1)) [(0,0),(1,1),(2,2)] rfl
   ·refine .g 1 rfl<|.jw (h756 [a1.Lo,a1.Hi]) [(0,0),(1,1),(2,2)] rfl
 ·intro h760
  refine .cd rfl (fun _ _=>?_) fun _ _=>?_
  ·refine .g 2 rfl<|.guard fun h763=>.sv (slK kD ([a0.Lo,a0.Hi].take 1)) [] rfl (snd_sliceK kD _ _ _ _ _ _ 0 1 rfl underlying97 si26 rfl rfl rfl rfl rfl h763) rfl<|.g 2 rfl<|.jw (h760 ([a0.Lo,a0.Hi].take 1)) [(0,0),(1,1),(2,2),(4,4)] rfl
  ·refine .g 1 rfl<|.jw (h760 [a0.Lo,a0.Hi]) [(0,0),(1,1),(2,2),(4,4)] rfl
instance cv_Div_i (a0:AI) (a1:AI) (a2:Int) (a3:Int):CC (cv_Div a0 a1 a2 a3) Tryz.prog 40 [(.ptr 0 0),(.agg (kI.enc a0)),(.agg (kI.enc a1))] [(.live 47 [(.int .i64 a2),(.int .i64 a3)])] (fun r=>(.agg (kI.enc (⟨⟨(((r.1).Lo).M),((r.1).Lo).E⟩,⟨(((r.1).Hi).M),((r.1).Hi).E⟩⟩:AI)))) (fun r=>[(.live 47 [(.int .i64 r.2),(.int .i64 a3)])]):=cc func40 (by kernel_rfl) rfl fun E=>by
 unfold cv_Div
 refine .g 14 rfl<|.st rfl (bs kI [a0,a1] rfl rfl) rfl<|.bind fun x11 h1=>.st rfl (cl (CC.h h1) [0] [] [true] rfl (.p rfl<|.l<|.nil) (.p rfl (.i<|.i<|.nil) .nil) fnil (.cons (.v (.i<|.i<|.nil)) .nil) (.bool _) (.turned .nil) rfl) rfl<|.g 3 rfl<|?_
 refine .cd rfl (fun _ _=>?_) fun _ _=>?_
 ·refine .g 8 rfl<|.fi rfl rfl
 ·refine .g 7 rfl<|.p0 rfl rfl fun x12 _=>.g 2 rfl<|?_
  refine .cd rfl (fun _ _=>?_) fun _ _=>?_
  ·refine .g 5 rfl<|.bind fun x13 h7=>.st rfl (cl (CC.h h7) [0] [] [true] rfl (.p rfl<|.i<|.nil) (.p rfl (.i<|.i<|.nil) .nil) fnil (.cons (.v (.i<|.i<|.nil)) .nil) (.bool _) (.turned .nil) rfl) rfl<|.g 10 rfl<|.fi rfl rfl
  ·refine .g 14 rfl<|.bind fun x14 h8=>.st rfl (cl (CC.h h8) [1,0] [5] [false,false,true] rfl (.b<|.p rfl<|.nil) (.p rfl (.p rfl<|.nil) (.p rfl (.i<|.i<|.nil) .nil)) (fresh_cons rfl fnil) (.cons (.v (.p rfl<|.nil)) (.cons (.v (.i<|.i<|.nil)) (.cons (.v (.b<|.nil)) .nil))) (ren_fnL _ .nil (.p rfl<|.p rfl<|.nil)) (.kept rfl (.kept rfl (.turned .nil))) rfl) rfl<|.bind fun x15 h9=>.st rfl (cl (CC.h h9) [0,1,5] [] [true,false,false] rfl (.p rfl<|.a kI<|.a kI<|.cons (ren_fnL _ .nil (.p rfl<|.p rfl<|.nil))<|.nil) (.p rfl (.i<|.i<|.nil) (.p rfl (.p rfl<|.nil) (.p rfl (.b<|.nil) .nil))) fnil (.cons (.v (.i<|.i<|.nil)) (.cons (.v (.p rfl<|.nil)) (.cons (.v (.b<|.nil)) .nil))) (ren_sl _) (.turned (.kept rfl (.kept rfl .nil))) rfl) rfl<|.p0 rfl rfl fun x16 _=>.g 7 rfl<|.dn (by kernel_rfl)<|.g 7 rfl<|.bind fun x17 h11=>.st rfl (cl (CC.h h11) [1,0] [8] [false,false,true] rfl (.b<|.p rfl<|.nil) (.p rfl (.p rfl<|.nil) (.p rfl (.i<|.i<|.nil) .nil)) (fresh_cons rfl fnil) (.cons (.v (.p rfl<|.nil)) (.cons (.v (.i<|.i<|.nil)) (.cons (.v (.b<|.nil)) .nil))) (ren_fnL _ .nil (.p rfl<|.p rfl<|.nil)) (.kept rfl (.kept rfl (.turned .nil))) rfl) rfl<|.bind fun x18 h12=>.st rfl (cl (CC.h h12) [0,1,8] [] [true,false,false] rfl (.p rfl<|.a kI<|.a kI<|.cons (ren_fnL _ .nil (.p rfl<|.p rfl<|.nil))<|.nil) (.p rfl (.i<|.i<|.nil) (.p rfl (.p rfl<|.nil) (.p rfl (.b<|.nil) .nil))) fnil (.cons (.v (.i<|.i<|.nil)) (.cons (.v (.p rfl<|.nil)) (.cons (.v (.b<|.nil)) .nil))) (ren_sl _) (.turned (.kept rfl (.kept rfl .nil))) rfl) rfl<|.p0 rfl rfl fun x19 _=>?_
   refine .g 7 rfl<|.dn (by kernel_rfl)<|.g 6 rfl<|.bind fun x20 h14=>.st rfl (cl (CC.h h14) [0] [] [false] rfl (.p rfl<|.a kD<|.a kD<|.nil) (.p rfl (.i<|.i<|.nil) .nil) fnil (.cons (.v (.i<|.i<|.nil)) .nil) (ren_agg (K:=kI) _) (.kept rfl .nil) rfl) rfl<|.g 4 rfl<|.fi rfl rfl
instance iv_In_i (a0:AI) (a1:AI):PC (iv_In a0 a1) Tryz.prog 263 [(.agg (kI.enc a0)),(.agg (kI.enc a1))] (fun r=>(.bool r)):=pc func263 (by kernel_rfl) rfl fun E=>by
 unfold iv_In
 refine .g 8 rfl<|?_
 refine .cut (fun x:Bool=>(iv_In_j1 x,[eB 4 x],[])) ?_ ?_
 ·rintro y11
  dsimp only [iv_In_j1]
  refine .g 2 rfl<|.fi rfl rfl
 ·intro h6
  refine .g 2 rfl<|.p0 rfl rfl fun x12 _=>.g 1 rfl<|?_
  refine .gd 7 rfl (fun _=>?_) fun _=>?_
  ·refine .g 3 rfl<|.p0 rfl rfl fun x13 _=>.g 2 rfl<|?_
   refine .gd 13 rfl (fun _=>?_) fun _=>?_
   ·refine .g 3 rfl<|.p0 rfl rfl fun x14 _=>.g 3 rfl<|.jw (h6 x14) [] rfl
   ·refine .g 7 rfl<|.jw (h6 false) [] rfl
  ·refine .g 13 rfl<|.jw (h6 false) [] rfl
instance small_in_i (a0:AI) (a1:Int) (a2:Int) (a3:Int):CC (small_in a0 a1 a2 a3) Tryz.prog 226 [(.ptr 0 0),(.agg (kI.enc a0)),(.int .i64 a1)] [(.live 47 [(.int .i64 a2),(.int .i64 a3)])] (fun r=>(.bool r.1)) (fun r=>[(.live 47 [(.int .i64 r.2),(.int .i64 a3)])]):=cc func226 (by kernel_rfl) rfl fun E=>by
 unfold small_in
 refine .g 9 rfl<|.p0 rfl rfl fun x9 _=>.g 8 rfl<|.bind fun x10 h2=>.st rfl (cl (CC.h h2) [0] [] [true] rfl (.p rfl<|.a kI<|.nil) (.p rfl (.i<|.i<|.nil) .nil) fnil (.cons (.v (.i<|.i<|.nil)) .nil) (ren_agg (K:=kI) _) (.turned .nil) rfl) rfl<|.g 8 rfl<|.bind fun x11 h3=>.st rfl (cl (CC.h h3) [0] [] [false] rfl (.p rfl<|.nil) (.p rfl (.i<|.i<|.nil) .nil) fnil (.cons (.v (.i<|.i<|.nil)) .nil) (.int _ _) (.kept rfl .nil) rfl) rfl<|.g 3 rfl<|?_
 refine .cd rfl (fun _ _=>?_) fun _ _=>?_
 ·refine .g 7 rfl<|.fi rfl rfl
 ·refine .g 7 rfl<|.p0 rfl rfl fun x12 _=>.g 2 rfl<|.p0 rfl rfl fun x13 _=>.dn (by kernel_rfl)<|.g 1 rfl<|?_
  refine .cd rfl (fun _ _=>?_) fun _ _=>?_
  ·refine .g 7 rfl<|.fi rfl rfl
  ·refine .g 6 rfl<|.bind fun x14 h10=>.st rfl (cl (CC.h h10) [0] [] [true] rfl (.p rfl<|.i<|.nil) (.p rfl (.i<|.i<|.nil) .nil) fnil (.cons (.v (.i<|.i<|.nil)) .nil) (ren_agg (K:=kI) _) (.turned .nil) rfl) rfl<|.g 1 rfl<|.bind fun x15 h11=>.st rfl (cl (CC.h h11) [0] [] [true] rfl (.p rfl<|.i<|.nil) (.p rfl (.i<|.i<|.nil) .nil) fnil (.cons (.v (.i<|.i<|.nil)) .nil) (ren_agg (K:=kI) _) (.turned .nil) rfl) rfl<|.bind fun x16 h12=>.st rfl (cl (CC.h h12) [0] [] [true] rfl (.p rfl<|.a kI<|.a kI<|.nil) (.p rfl (.i<|.i<|.nil) .nil) fnil (.cons (.v (.i<|.i<|.nil)) .nil) (ren_agg (K:=kI) _) (.turned .nil) rfl) rfl<|.g 8 rfl<|.fi rfl rfl
instance small_Terms_i (a0:Int):PC (small_Terms a0) Tryz.prog 268 [(.int .i64 a0)] (fun r=>(.int .i64 r)):=pc func268 (by kernel_rfl) rfl fun E=>by
 unfold small_Terms
 refine .g 16 rfl<|.fi rfl rfl
instance small_Atanh_1_i (a0:AI):PC (small_Atanh_1 a0) Tryz.prog 262 [(.agg (kI.enc a0))] (fun r=>(.agg (kI.enc (⟨⟨(((r).Lo).M),((r).Lo).E⟩,⟨(((r).Hi).M),((r).Hi).E⟩⟩:AI)))):=pc func262 (by kernel_rfl) rfl fun E=>by
 unfold small_Atanh_1
 refine .g 13 rfl<|.fi rfl rfl
instance small_odd_1_da03_i (a0:Int) (a1:AI) (a2:Int) (a3:Int) (a4:Bool) (a5:List Int) (a6:Int) (a7:Bool) (a8:List Int) (a9:Int):CC (small_odd_1_da03 a0 a1 a2 a3 a4 a5 a6 a7 a8 a9) Tryz.prog 239 [(.int .i64 a0),(.agg (kI.enc a1)),(.ptr 0 0),(.ptr 1 0),(.ptr 3 0)] [(.live 60 [(.fn 262 [] [])]),(.live 29 [(.ptr 2 0)]),(.live 47 [(.int .i64 a2),(.int .i64 a3)]),(.live 37 [(.bool a4),(slK (kInt .u32) a5),(.int .i64 a6),(.bool a7),(slK (kInt .u32) a8),(.int .i64 a9)])] (fun r=>(.tup [(.agg (kI.enc (⟨⟨(((r.1).Lo).M),((r.1).Lo).E⟩,⟨(((r.1).Hi).M),((r.1).Hi).E⟩⟩:AI))),(.agg (kI.enc (⟨⟨(((r.2.1).Lo).M),((r.2.1).Lo).E⟩,⟨(((r.2.1).Hi).M),((r.2.1).Hi).E⟩⟩:AI)))])) (fun r=>[(.live 60 [(.fn 262 [] [])]),(.live 29 [(.ptr 2 0)]),(.live 47 [(.int .i64 r.2.2),(.int .i64 a3)]),(.live 37 [(.bool a4),(slK (kInt .u32) a5),(.int .i64 a6),(.bool a7),(slK (kInt .u32) a8),(.int .i64 a9)])]):=cc func239 (by kernel_rfl) rfl fun E=>by
 unfold small_odd_1_da03
 refine .g 13 rfl<|.bind fun x5 h1=>.st rfl (cl (CC.h h1) [2] [] [true] rfl (.p rfl<|.a kI<|.a kI<|.nil) (.p rfl (.i<|.i<|.nil) .nil) fnil (.cons (.v (.i<|.i<|.nil)) .nil) (ren_agg (K:=kI) _) (.turned .nil) rfl) rfl<|.p0 rfl rfl fun x6 _=>.g 1 rfl<|.dn (by kernel_rfl)<|.g 10 rfl<|.bind fun x7 h3=>.st rfl (cl (CC.h h3) [2] [] [true] rfl (.p rfl<|.i<|.nil) (.p rfl (.i<|.i<|.nil) .nil) fnil (.cons (.v (.i<|.i<|.nil)) .nil) (ren_agg (K:=kI) _) (.turned .nil) rfl) rfl<|.bind fun x8 h4=>.st rfl (cl (CC.h h4) [2] [] [true] rfl (.p rfl<|.a kI<|.a kI<|.nil) (.p rfl (.i<|.i<|.nil) .nil) fnil (.cons (.v (.i<|.i<|.nil)) .nil) (ren_agg (K:=kI) _) (.turned .nil) rfl) rfl<|.g 2 rfl<|.dn (by kernel_rfl)<|.g 2 rfl<|.fi rfl rfl
instance cv_Wide_i (a0:AI) (a1:AD) (a2:Int) (a3:Int):CC (cv_Wide a0 a1 a2 a3) Tryz.prog 200 [(.ptr 0 0),(.agg (kI.enc a0)),(.agg (kD.enc a1))] [(.live 47 [(.int .i64 a2),(.int .i64 a3)])] (fun r=>(.agg (kI.enc (⟨⟨(((r.1).Lo).M),((r.1).Lo).E⟩,⟨(((r.1).Hi).M),((r.1).Hi).E⟩⟩:AI)))) (fun r=>[(.live 47 [(.int .i64 r.2),(.int .i64 a3)])]):=cc func200 (by kernel_rfl) rfl fun E=>by
 unfold cv_Wide
 refine .g 14 rfl<|.st rfl (bs kI [a0,(⟨⟨⟨false,[]⟩,0⟩,a1⟩:AI)] rfl rfl) rfl<|.bind fun x8 h1=>.st rfl (cl (CC.h h1) [0] [] [true] rfl (.p rfl<|.l<|.nil) (.p rfl (.i<|.i<|.nil) .nil) fnil (.cons (.v (.i<|.i<|.nil)) .nil) (.bool _) (.turned .nil) rfl) rfl<|.g 3 rfl<|?_
 refine .cd rfl (fun _ _=>?_) fun _ _=>?_
 ·refine .g 8 rfl<|.fi rfl rfl
 ·refine .g 9 rfl<|.p0 rfl rfl fun x9 _=>.bind fun x10 h5=>.st rfl (cl (CC.h h5) [0] [] [true] rfl (.p rfl<|.a kD<|.a kD<|.nil) (.p rfl (.i<|.i<|.nil) .nil) fnil (.cons (.v (.i<|.i<|.nil)) .nil) (ren_agg (K:=kD) _) (.turned .nil) rfl) rfl<|.bind fun x11 h6=>.st rfl (cl (CC.h h6) [0] [] [true] rfl (.p rfl<|.a kD<|.nil) (.p rfl (.i<|.i<|.nil) .nil) fnil (.cons (.v (.i<|.i<|.nil)) .nil) (ren_agg (K:=kD) _) (.turned .nil) rfl) rfl<|.g 2 rfl<|.dn (by kernel_rfl)<|.g 10 rfl<|.bind fun x12 h7=>.st rfl (cl (CC.h h7) [0] [] [true] rfl (.p rfl<|.a kD<|.a kD<|.nil) (.p rfl (.i<|.i<|.nil) .nil) fnil (.cons (.v (.i<|.i<|.nil)) .nil) (ren_agg (K:=kD) _) (.turned .nil) rfl) rfl<|.bind fun x13 h8=>.st rfl (cl (CC.h h8) [0] [] [true] rfl (.p rfl<|.a kD<|.nil) (.p rfl (.i<|.i<|.nil) .nil) fnil (.cons (.v (.i<|.i<|.nil)) .nil) (ren_agg (K:=kD) _) (.turned .nil) rfl) rfl<|.bind fun x14 h9=>?_
  refine .st rfl (cl (CC.h h9) [0] [] [false] rfl (.p rfl<|.a kD<|.a kD<|.nil) (.p rfl (.i<|.i<|.nil) .nil) fnil (.cons (.v (.i<|.i<|.nil)) .nil) (ren_agg (K:=kI) _) (.kept rfl .nil) rfl) rfl<|.g 1 rfl<|.dn (by kernel_rfl)<|.g 2 rfl<|.fi rfl rfl
instance small_series_78b1_i (a0:AI) (a1:Int) (a2:Int) (a3:Bool) (a4:List Int) (a5:Int) (a6:Bool) (a7:List Int) (a8:Int):CC (small_series_78b1 a0 a1 a2 a3 a4 a5 a6 a7 a8) Tryz.prog 238 [(.ptr 0 0),(.agg (kI.enc a0)),(.fn 239 [] [(.ptr 1 0),(.ptr 2 0),(.ptr 3 0)])] [(.live 47 [(.int .i64 a1),(.int .i64 a2)]),(.live 60 [(.fn 262 [] [])]),(.live 29 [(.ptr 0 0)]),(.live 37 [(.bool a3),(slK (kInt .u32) a4),(.int .i64 a5),(.bool a6),(slK (kInt .u32) a7),(.int .i64 a8)])] (fun r=>(.agg (kI.enc (⟨⟨(((r.1).Lo).M),((r.1).Lo).E⟩,⟨(((r.1).Hi).M),((r.1).Hi).E⟩⟩:AI)))) (fun r=>[(.live 47 [(.int .i64 r.2),(.int .i64 a2)]),(.live 60 [(.fn 262 [] [])]),(.live 29 [(.ptr 0 0)]),(.live 37 [(.bool a3),(slK (kInt .u32) a4),(.int .i64 a5),(.bool a6),(slK (kInt .u32) a7),(.int .i64 a8)])]):=cc func238 (by kernel_rfl) rfl fun E=>by
 unfold small_series_78b1
 refine .g 14 rfl<|.dn (by kernel_rfl)<|.g 5 rfl<|.bind fun x93 h1=>.st rfl (cl (CC.h h1) [0] [] [false] rfl (.p rfl<|.nil) (.p rfl (.i<|.i<|.nil) .nil) fnil (.cons (.v (.i<|.i<|.nil)) .nil) (.int _ _) (.kept rfl .nil) rfl) rfl<|.p0 rfl rfl fun x94 _=>.g 3 rfl<|?_
 refine .cut (fun x:Int × Bool × (List Int) × Int × Bool × (List Int) × Int=>(small_series_78b1_j1 a2 x.1 x.2.1 x.2.2.1 x.2.2.2.1 x.2.2.2.2.1 x.2.2.2.2.2.1 x.2.2.2.2.2.2,[eP 0 0,eP 6 5,eP 7 6],[(0,(.live 47 [(.int .i64 x.1),(.int .i64 a2)])),(1,(.live 60 [(.fn 262 [] [])])),(2,(.live 29 [(.ptr 0 0)])),(3,(.live 37 [(.bool a3),(slK (kInt .u32) a4),(.int .i64 a5),(.bool a6),(slK (kInt .u32) a7),(.int .i64 a8)])),(5,(.live 37 [(.bool false),(slK (kInt .u32) []),(.int .i64 0),(.bool false),(slK (kInt .u32) []),(.int .i64 0)])),(6,(.live 37 [(.bool x.2.1),(slK (kInt .u32) x.2.2.1),(.int .i64 x.2.2.2.1),(.bool x.2.2.2.2.1),(slK (kInt .u32) x.2.2.2.2.2.1),(.int .i64 x.2.2.2.2.2.2)]))])) ?_ ?_
 ·rintro ⟨y135,y136,y137,y138,y139,y140,y141⟩
  dsimp only [small_series_78b1_j1]
  refine .g 6 rfl<|.bind fun x142 h21=>.st rfl (cl (CC.h h21) [0] [] [false] rfl (.p rfl<|.nil) (.p rfl (.i<|.i<|.nil) .nil) fnil (.cons (.v (.i<|.i<|.nil)) .nil) (.int _ _) (.kept rfl .nil) rfl) rfl<|.g 1 rfl<|.p0 rfl rfl fun x143 _=>.bind fun x144 h23=>.st rfl (cl (CC.h h23) [0] [] [true] rfl (.p rfl<|.a kI<|.a kD<|.nil) (.p rfl (.i<|.i<|.nil) .nil) fnil (.cons (.v (.i<|.i<|.nil)) .nil) (ren_agg (K:=kI) _) (.turned .nil) rfl) rfl<|.g 1 rfl<|.dn (by kernel_rfl)<|.g 2 rfl<|.fi rfl rfl
 ·intro h24
  refine .g 1 rfl<|?_
  refine .lp (fun n (x:Int × Int × Bool × (List Int) × Int × Bool × (List Int) × Int × Bool × (List Int) × Int × Bool × (List Int) × Int)=>small_series_78b1_l2 x94 a2 a3 a4 a5 a6 a7 a8 n x.1 x.2.1 x.2.2.1 x.2.2.2.1 x.2.2.2.2.1 x.2.2.2.2.2.1 x.2.2.2.2.2.2.1 x.2.2.2.2.2.2.2.1 x.2.2.2.2.2.2.2.2.1 x.2.2.2.2.2.2.2.2.2.1 x.2.2.2.2.2.2.2.2.2.2.1 x.2.2.2.2.2.2.2.2.2.2.2.1 x.2.2.2.2.2.2.2.2.2.2.2.2.1 x.2.2.2.2.2.2.2.2.2.2.2.2.2) (fun x=>([eP 0 0,(2,some (.fn 239 [] [(.ptr 1 0),(.ptr 2 0),(.ptr 3 0)])),eP 6 5,eP 7 6,eP 8 7,eI 15 x94,eI 16 x.1],[(0,(.live 47 [(.int .i64 x.2.1),(.int .i64 a2)])),(1,(.live 60 [(.fn 262 [] [])])),(2,(.live 29 [(.ptr 0 0)])),(3,(.live 37 [(.bool a3),(slK (kInt .u32) a4),(.int .i64 a5),(.bool a6),(slK (kInt .u32) a7),(.int .i64 a8)])),(5,(.live 37 [(.bool false),(slK (kInt .u32) []),(.int .i64 0),(.bool false),(slK (kInt .u32) []),(.int .i64 0)])),(6,(.live 37 [(.bool x.2.2.1),(slK (kInt .u32) x.2.2.2.1),(.int .i64 x.2.2.2.2.1),(.bool x.2.2.2.2.2.1),(slK (kInt .u32) x.2.2.2.2.2.2.1),(.int .i64 x.2.2.2.2.2.2.2.1)])),(7,(.live 37 [(.bool x.2.2.2.2.2.2.2.2.1),(slK (kInt .u32) x.2.2.2.2.2.2.2.2.2.1),(.int .i64 x.2.2.2.2.2.2.2.2.2.2.1),(.bool x.2.2.2.2.2.2.2.2.2.2.2.1),(slK (kInt .u32) x.2.2.2.2.2.2.2.2.2.2.2.2.1),(.int .i64 x.2.2.2.2.2.2.2.2.2.2.2.2.2)]))])) (0,a1,a0.Lo.M.Neg,a0.Lo.M.Mag,a0.Lo.E,a0.Hi.M.Neg,a0.Hi.M.Mag,a0.Hi.E,a0.Lo.M.Neg,a0.Lo.M.Mag,a0.Lo.E,a0.Hi.M.Neg,a0.Hi.M.Mag,a0.Hi.E) [(0,0),(1,1),(2,2),(3,3),(5,5),(6,6),(7,7)] rfl ?_
  rintro n2 ⟨y167,y168,y169,y170,y171,y172,y173,y174,y175,y176,y177,y178,y179,y180⟩
  try dsimp only
  rw [small_series_78b1_l2]
  refine .g 6 rfl<|?_
  refine .cd rfl (fun _ _=>?_) fun _ _=>?_
  ·refine .g 21 rfl<|.bind fun x183 h41=>.st rfl (cl (CC.h h41) [1,2,0,3] [] [false,false,true,false] rfl (.i<|.a kI<|.p rfl<|.p rfl<|.p rfl<|.nil) (.p rfl (.cons (ren_fnL _ .nil .nil)<|.nil) (.p rfl (.p rfl<|.nil) (.p rfl (.i<|.i<|.nil) (.p rfl (.b<|.l<|.i<|.b<|.l<|.i<|.nil) .nil)))) fnil (.cons (.v (.cons (ren_fnL _ .nil .nil)<|.nil)) (.cons (.v (.p rfl<|.nil)) (.cons (.v (.i<|.i<|.nil)) (.cons (.v (.b<|.l<|.i<|.b<|.l<|.i<|.nil)) .nil)))) (ren_tupL (.a kI<|.a kI<|.nil)) (.kept rfl (.kept rfl (.turned (.kept rfl .nil)))) rfl) rfl<|.g 11 rfl<|.bind fun x184 h42=>.st rfl (cl (CC.h h42) [0] [] [true] rfl (.p rfl<|.a kI<|.a kI<|.nil) (.p rfl (.i<|.i<|.nil) .nil) fnil (.cons (.v (.i<|.i<|.nil)) .nil) (ren_agg (K:=kI) _) (.turned .nil) rfl) rfl<|.g 8 rfl<|.ag ((IntKind.i64.wrap (y167+1)),x184.2,(((x184.1).Lo).M).Neg,(((x184.1).Lo).M).Mag,((x184.1).Lo).E,(((x184.1).Hi).M).Neg,(((x184.1).Hi).M).Mag,((x184.1).Hi).E,(((x183.1).Lo).M).Neg,(((x183.1).Lo).M).Mag,((x183.1).Lo).E,(((x183.1).Hi).M).Neg,(((x183.1).Hi).M).Mag,((x183.1).Hi).E) [(0,0),(1,1),(2,2),(3,3),(5,5),(6,6),(7,7)] rfl
  ·refine .g 4 rfl<|.jw (h24 (y168,y169,y170,y171,y172,y173,y174)) [(0,0),(1,1),(2,2),(3,3),(5,5),(6,6)] rfl
instance small_odd_cdf0_i (a0:AI) (a1:Int) (a2:Int):CC (small_odd_cdf0 a0 a1 a2) Tryz.prog 173 [(.ptr 0 0),(.agg (kI.enc a0)),(.fn 262 [] [])] [(.live 47 [(.int .i64 a1),(.int .i64 a2)])] (fun r=>(.agg (kI.enc (⟨⟨(((r.1).Lo).M),((r.1).Lo).E⟩,⟨(((r.1).Hi).M),((r.1).Hi).E⟩⟩:AI)))) (fun r=>[(.live 47 [(.int .i64 r.2),(.int .i64 a2)])]):=cc func173 (by kernel_rfl) rfl fun E=>by
 unfold small_odd_cdf0
 refine .g 13 rfl<|.bind fun x4 h1=>.st rfl (cl (CC.h h1) [0] [] [true] rfl (.p rfl<|.a kI<|.i<|.nil) (.p rfl (.i<|.i<|.nil) .nil) fnil (.cons (.v (.i<|.i<|.nil)) .nil) (.bool _) (.turned .nil) rfl) rfl<|.g 3 rfl<|?_
 refine .cd rfl (fun _ _=>?_) fun _ _=>?_
 ·refine .g 8 rfl<|.fi rfl rfl
 ·refine .g 7 rfl<|.bind fun x5 h4=>.st rfl (cl (CC.h h4) [0] [] [true] rfl (.p rfl<|.a kI<|.a kI<|.nil) (.p rfl (.i<|.i<|.nil) .nil) fnil (.cons (.v (.i<|.i<|.nil)) .nil) (ren_agg (K:=kI) _) (.turned .nil) rfl) rfl<|.g 9 rfl<|.bind fun x6 h5=>.st rfl (cl (CC.h h5) [0,3,1,5] [] [true,false,false,false] rfl (.p rfl<|.a kI<|.cons (ren_fnL _ .nil (.p rfl<|.p rfl<|.p rfl<|.nil))<|.nil) (.p rfl (.i<|.i<|.nil) (.p rfl (.cons (ren_fnL _ .nil .nil)<|.nil) (.p rfl (.p rfl<|.nil) (.p rfl (.b<|.l<|.i<|.b<|.l<|.i<|.nil) .nil)))) fnil (.cons (.v (.i<|.i<|.nil)) (.cons (.v (.cons (ren_fnL _ .nil .nil)<|.nil)) (.cons (.v (.p rfl<|.nil)) (.cons (.v (.b<|.l<|.i<|.b<|.l<|.i<|.nil)) .nil)))) (ren_agg (K:=kI) _) (.turned (.kept rfl (.kept rfl (.kept rfl .nil)))) rfl) rfl<|.g 4 rfl<|.fi rfl rfl
instance small_Atanh_i (a0:AI) (a1:Int) (a2:Int):CC (small_Atanh a0 a1 a2) Tryz.prog 219 [(.ptr 0 0),(.agg (kI.enc a0))] [(.live 47 [(.int .i64 a1),(.int .i64 a2)])] (fun r=>(.agg (kI.enc (⟨⟨(((r.1).Lo).M),((r.1).Lo).E⟩,⟨(((r.1).Hi).M),((r.1).Hi).E⟩⟩:AI)))) (fun r=>[(.live 47 [(.int .i64 r.2),(.int .i64 a2)])]):=cc func219 (by kernel_rfl) rfl fun E=>by
 unfold small_Atanh
 refine .g 10 rfl<|.bind fun x2 h1=>.st rfl (cl (CC.h h1) [0] [] [true] rfl (.p rfl<|.a kI<|.cons (ren_fnL _ .nil .nil)<|.nil) (.p rfl (.i<|.i<|.nil) .nil) fnil (.cons (.v (.i<|.i<|.nil)) .nil) (ren_agg (K:=kI) _) (.turned .nil) rfl) rfl<|.g 4 rfl<|.fi rfl rfl
instance konst_parts_b550_i (a0:Int) (a1:Int) (a2:Int) (a3:Int):CC (konst_parts_b550 a0 a1 a2 a3) Tryz.prog 125 [(.ptr 0 0),(.sl [[(.fn 219 [] []),(.int .i64 a0),(.int .i64 a1)]])] [(.live 47 [(.int .i64 a2),(.int .i64 a3)])] (fun r=>(slK kI r.1)) (fun r=>[(.live 47 [(.int .i64 r.2),(.int .i64 a3)])]):=cc func125 (by kernel_rfl) rfl fun E=>by
 unfold konst_parts_b550
 refine .g 14 rfl<|.sv (.int .i64 1) [] rfl (snd_len _ _ _ _ _ rfl underlying176 rfl rfl rfl rfl) rfl<|.g 3 rfl<|?_
 refine .cut (fun x:Int × (List AI)=>(konst_parts_b550_j1 a1 a3 x.1 x.2,[eP 0 0,(1,some (.sl [[(.fn 219 [] []),(.int .i64 a0),(.int .i64 a1)]])),(5,some (grA kI 1 x.2))],[(0,(.live 47 [(.int .i64 x.1),(.int .i64 a3)])),(1,(grV kI 37 x.2))])) ?_ ?_
 ·rintro ⟨y119,y120⟩
  dsimp only [konst_parts_b550_j1]
  refine .g 5 rfl<|.sv (.int .i64 1) [] rfl (snd_len _ _ _ _ _ rfl underlying176 rfl rfl rfl rfl) rfl<|.g 3 rfl<|?_
  refine .cut (fun x:Int × (List AI)=>(konst_parts_b550_j2 x.1 x.2,[(5,some (grA kI 1 x.2))],[(0,(.live 47 [(.int .i64 x.1),(.int .i64 a3)])),(1,(grV kI 37 x.2))])) ?_ ?_
  ·rintro ⟨y133,y134⟩
   dsimp only [konst_parts_b550_j2]
   refine .g 8 rfl<|?_
   refine .weak ?_ (fun a w h=>Conc.gr_still kI h 4 1 37 y134 rfl rfl)
   exact .fi rfl rfl
  ·intro h71
   refine .g 1 rfl<|?_
   refine .lo (fun n (x:Int × Int × (List AI))=>konst_parts_b550_l3 a1 a3 n x.1 x.2.1 x.2.2) (fun x=>([eP 0 0,(5,some (grA kI 1 x.2.2)),(32,some (.sl [[(.fn 219 [] []),(.int .i64 a0),(.int .i64 a1)]])),eI 33 1,eI 34 x.1],[(0,(.live 47 [(.int .i64 x.2.1),(.int .i64 a3)])),(1,(grV kI 37 x.2.2))])) (0,y119,y120) rfl (fun hE=>jn (m:=1) [(0,0),(1,1)] hE (.p rfl rfl<|.g rfl (ren_gr (K:=kI) (by rfl) y120)<|.g rfl (ren_slL (.cons (.cons (ren_fnL _ .nil .nil)<|.i<|.i<|.nil) .nil))<|.i rfl<|.i rfl<|.nil) (.v rfl (.i<|.i<|.nil)<|.cons (.refl _) (renV_gr (K:=kI) 37 y120)<|.nil) rfl) ?_
   rintro n3 ⟨y142,y143,y144⟩
   try dsimp only
   rw [konst_parts_b550_l3]
   refine .g 6 rfl<|?_
   refine .cd rfl (fun _ _=>?_) fun _ _=>?_
   ·refine .g 7 rfl<|?_
    refine .ite (fun h99=>?_) (fun h99=>?_)
    ·refine .sv (.iptr [(.fn 219 [] []),(.int .i64 a0),(.int .i64 a1)]) [] rfl (snd_index_at 0 _ _ _ _ _ _ _ _ rfl underlying176 si121 rfl rfl rfl rfl (by intro e he; simp at he; rcases he with rfl<;>rfl) rfl h99 rfl) rfl<|.g 6 rfl<|.guard fun h100=>?_
     refine .weak ?_ (fun a w h=>Conc.gr_open1 kI h 5 1 y144 (by omega) rfl)
     refine .weak ?_ (fun a w h=>Conc.gr_openV kI h 1 37 y144 (by omega) rfl)
     refine .g 6 rfl<|.guard fun h101=>?_
     obtain ⟨h1011,h1012⟩:=h101
     refine .sv (.rptr 1 kI.sz y142.toNat 0) [] rfl (idx_r (snd_index_r _ _ _ _ _ 1 0 ((y144).length) _ y142 rfl underlying118 si37 rfl rfl rfl rfl h1011 (by omega)) (Nat.zero_add _)) rfl<|.sv (.agg (kI.enc (⟨⟨((((y144).getD y142.toNat zAI).Lo).M),(((y144).getD y142.toNat zAI).Lo).E⟩,⟨((((y144).getD y142.toNat zAI).Hi).M),(((y144).getD y142.toNat zAI).Hi).E⟩⟩:AI))) [] rfl (snd_loadK_agg kI _ _ 1 y142.toNat 0 6 _ _ rfl ag37 rfl rfl rfl rfl (by first | omega | (simp only [List.length_set]; omega)) (by decide)) rfl<|.g 2 rfl<|.bind fun x146 h102=>.st rfl (cl (CC.h h102) [0] [] [true] rfl (.p rfl<|.a kI<|.i<|.nil) (.p rfl (.i<|.i<|.nil) .nil) fnil (.cons (.v (.i<|.i<|.nil)) .nil) (ren_agg (K:=kI) _) (.turned .nil) rfl) rfl<|.guard fun h103=>?_
     obtain ⟨h1031,h1032⟩:=h103
     refine .sv (.rptr 1 kI.sz y142.toNat 0) [] rfl (idx_r (snd_index_r _ _ _ _ _ 1 0 ((y144).length) _ y142 rfl underlying118 si37 rfl rfl rfl rfl h1031 (by omega)) (Nat.zero_add _)) rfl<|.sm [(1,(rwK kI 37 ((y144).set y142.toNat (⟨⟨(((x146.1).Lo).M),((x146.1).Lo).E⟩,⟨(((x146.1).Hi).M),((x146.1).Hi).E⟩⟩:AI))))] rfl (snd_storeK_agg kI _ _ _ 1 y142.toNat _ _ (⟨⟨(((x146.1).Lo).M),((x146.1).Lo).E⟩,⟨(((x146.1).Hi).M),((x146.1).Hi).E⟩⟩:AI) rfl rfl ag37 rfl rfl rfl rfl (by first | omega | (simp only [List.length_set]; omega))) rfl<|.dn (by kernel_rfl)<|?_
     refine .weak ?_ (fun a w h=>Conc.relen h 5 ((((y144).set y142.toNat (⟨⟨(((x146.1).Lo).M),((x146.1).Lo).E⟩,⟨(((x146.1).Hi).M),((x146.1).Hi).E⟩⟩:AI))).length) rfl List.length_set.symm)
     refine .g 6 rfl<|.guard fun h104=>?_
     refine .weak ?_ (fun a w h=>Conc.gr_row kI h 5 1 37 ((y144).set y142.toNat (⟨⟨(((x146.1).Lo).M),((x146.1).Lo).E⟩,⟨(((x146.1).Hi).M),((x146.1).Hi).E⟩⟩:AI)) rfl rfl (by first | omega | (simp only [List.length_append,List.length_cons,List.length_set]; omega) | simp))
     exact .ao ((IntKind.i64.wrap (y142+1)),x146.2,((y144).set y142.toNat (⟨⟨(((x146.1).Lo).M),((x146.1).Lo).E⟩,⟨(((x146.1).Hi).M),((x146.1).Hi).E⟩⟩:AI))) rfl fun hE=>jn (m:=1) [(0,0),(1,1)] hE (.p rfl rfl<|.g rfl (ren_gr (K:=kI) (by rfl) ((y144).set y142.toNat (⟨⟨(((x146.1).Lo).M),((x146.1).Lo).E⟩,⟨(((x146.1).Hi).M),((x146.1).Hi).E⟩⟩:AI)))<|.g rfl (ren_slL (.cons (.cons (ren_fnL _ .nil .nil)<|.i<|.i<|.nil) .nil))<|.i rfl<|.i rfl<|.nil) (.v rfl (.i<|.i<|.nil)<|.cons (.refl _) (renV_gr (K:=kI) 37 ((y144).set y142.toNat (⟨⟨(((x146.1).Lo).M),((x146.1).Lo).E⟩,⟨(((x146.1).Hi).M),((x146.1).Hi).E⟩⟩:AI)))<|.nil) rfl
    ·exact .no
   ·refine .g 4 rfl<|.jo (h71 (y143,y144)) rfl fun hE=>jn (m:=1) [(0,0),(1,1)] hE (.g rfl (ren_gr (K:=kI) (by rfl) y144)<|.nil) (.v rfl (.i<|.i<|.nil)<|.cons (.refl _) (renV_gr (K:=kI) 37 y144)<|.nil) rfl
 ·intro h105
  refine .g 1 rfl<|?_
  refine .weak ?_ (fun a w h=>Conc.gr_nil kI h 5 1 37 rfl)
  refine .lo (fun n (x:Int × Int × (List AI))=>konst_parts_b550_l4 a3 a0 a1 n x.1 x.2.1 x.2.2) (fun x=>([eP 0 0,(1,some (.sl [[(.fn 219 [] []),(.int .i64 a0),(.int .i64 a1)]])),(5,some (grA kI 1 x.2.2)),(10,some (.sl [[(.fn 219 [] []),(.int .i64 a0),(.int .i64 a1)]])),eI 11 1,eI 12 x.1],[(0,(.live 47 [(.int .i64 x.2.1),(.int .i64 a3)])),(1,(grV kI 37 x.2.2))])) (0,a2,[]) rfl (fun hE=>jn (m:=1) [(0,0),(1,1)] hE (.p rfl rfl<|.g rfl (ren_slL (.cons (.cons (ren_fnL _ .nil .nil)<|.i<|.i<|.nil) .nil))<|.g rfl (ren_gr (K:=kI) (by rfl) [])<|.g rfl (ren_slL (.cons (.cons (ren_fnL _ .nil .nil)<|.i<|.i<|.nil) .nil))<|.i rfl<|.i rfl<|.nil) (.v rfl (.i<|.i<|.nil)<|.cons (.refl _) (renV_gr (K:=kI) 37 [])<|.nil) rfl) ?_
  rintro n4 ⟨y166,y167,y168⟩
  try dsimp only
  rw [konst_parts_b550_l4]
  refine .g 6 rfl<|?_
  refine .cd rfl (fun _ _=>?_) fun _ _=>?_
  ·refine .g 6 rfl<|?_
   refine .ite (fun h138=>?_) (fun h138=>?_)
   ·refine .sv (.iptr [(.fn 219 [] []),(.int .i64 a0),(.int .i64 a1)]) [] rfl (snd_index_at 0 _ _ _ _ _ _ _ _ rfl underlying176 si121 rfl rfl rfl rfl (by intro e he; simp at he; rcases he with rfl<;>rfl) rfl h138 rfl) rfl<|.g 12 rfl<|.bind fun x173 h139=>.st rfl (cl (CC.h h139) [0] [] [true] rfl (.p rfl<|.i<|.nil) (.p rfl (.i<|.i<|.nil) .nil) fnil (.cons (.v (.i<|.i<|.nil)) .nil) (ren_agg (K:=kI) _) (.turned .nil) rfl) rfl<|.g 3 rfl<|.bind fun x174 h140=>.st rfl (cl (CC.h h140) [0] [] [true] rfl (.p rfl<|.i<|.nil) (.p rfl (.i<|.i<|.nil) .nil) fnil (.cons (.v (.i<|.i<|.nil)) .nil) (ren_agg (K:=kI) _) (.turned .nil) rfl) rfl<|.bind fun x175 h141=>.st rfl (cl (CC.h h141) [0] [] [true] rfl (.p rfl<|.a kI<|.a kI<|.nil) (.p rfl (.i<|.i<|.nil) .nil) fnil (.cons (.v (.i<|.i<|.nil)) .nil) (ren_agg (K:=kI) _) (.turned .nil) rfl) rfl<|.bind fun x176 h142=>.st rfl (cl (CC.h h142) [0] [] [true] rfl (.p rfl<|.a kI<|.nil) (.p rfl (.i<|.i<|.nil) .nil) fnil (.cons (.v (.i<|.i<|.nil)) .nil) (ren_agg (K:=kI) _) (.turned .nil) rfl) rfl<|.st rfl (bs kI [(⟨⟨(((x176.1).Lo).M),((x176.1).Lo).E⟩,⟨(((x176.1).Hi).M),((x176.1).Hi).E⟩⟩:AI)] rfl rfl) rfl<|.guard fun h143=>.sv (.row 3 kI.sz 0 (((y168++[(⟨⟨(((x176.1).Lo).M),((x176.1).Lo).E⟩,⟨(((x176.1).Hi).M),((x176.1).Hi).E⟩⟩:AI)])).length)) [(3,(rwK kI 37 (y168++[(⟨⟨(((x176.1).Lo).M),((x176.1).Lo).E⟩,⟨(((x176.1).Hi).M),((x176.1).Hi).E⟩⟩:AI)]))),(1,.dead)] rfl (snd_appendK_gr kI _ _ _ _ _ 1 3 y168 [(⟨⟨(((x176.1).Lo).M),((x176.1).Lo).E⟩,⟨(((x176.1).Hi).M),((x176.1).Hi).E⟩⟩:AI)] rfl underlying118 ze37 sb37 rfl rfl rfl rfl rfl rfl rfl h143) rfl<|?_
    refine .g 1 rfl<|.dn (by kernel_rfl)<|.g 6 rfl<|?_
    refine .weak ?_ (fun a w h=>Conc.gr_row kI h 5 3 37 (y168++[(⟨⟨(((x176.1).Lo).M),((x176.1).Lo).E⟩,⟨(((x176.1).Hi).M),((x176.1).Hi).E⟩⟩:AI)]) rfl rfl (by first | omega | (simp only [List.length_append,List.length_cons,List.length_set]; omega) | simp))
    exact .ao ((IntKind.i64.wrap (y166+1)),x176.2,(y168++[(⟨⟨(((x176.1).Lo).M),((x176.1).Lo).E⟩,⟨(((x176.1).Hi).M),((x176.1).Hi).E⟩⟩:AI)])) rfl fun hE=>jn (m:=1) [(0,0),(3,1)] hE (.p rfl rfl<|.g rfl (ren_slL (.cons (.cons (ren_fnL _ .nil .nil)<|.i<|.i<|.nil) .nil))<|.g rfl (ren_gr (K:=kI) (by rfl) (y168++[(⟨⟨(((x176.1).Lo).M),((x176.1).Lo).E⟩,⟨(((x176.1).Hi).M),((x176.1).Hi).E⟩⟩:AI)]))<|.g rfl (ren_slL (.cons (.cons (ren_fnL _ .nil .nil)<|.i<|.i<|.nil) .nil))<|.i rfl<|.i rfl<|.nil) (.v rfl (.i<|.i<|.nil)<|.cons (.refl _) (renV_gr (K:=kI) 37 (y168++[(⟨⟨(((x176.1).Lo).M),((x176.1).Lo).E⟩,⟨(((x176.1).Hi).M),((x176.1).Hi).E⟩⟩:AI)]))<|.nil) rfl
   ·exact .no
  ·refine .g 4 rfl<|.jo (h105 (y167,y168)) rfl fun hE=>jn (m:=1) [(0,0),(1,1)] hE (.p rfl rfl<|.g rfl (ren_slL (.cons (.cons (ren_fnL _ .nil .nil)<|.i<|.i<|.nil) .nil))<|.g rfl (ren_gr (K:=kI) (by rfl) y168)<|.nil) (.v rfl (.i<|.i<|.nil)<|.cons (.refl _) (renV_gr (K:=kI) 37 y168)<|.nil) rfl
instance konst_Ln2_i (a0:Int) (a1:Int):CC (konst_Ln2 a0 a1) Tryz.prog 221 [(.ptr 0 0)] [(.live 47 [(.int .i64 a0),(.int .i64 a1)])] (fun r=>(.agg (kI.enc (⟨⟨(((r.1).Lo).M),((r.1).Lo).E⟩,⟨(((r.1).Hi).M),((r.1).Hi).E⟩⟩:AI)))) (fun r=>[(.live 47 [(.int .i64 r.2),(.int .i64 a1)])]):=cc func221 (by kernel_rfl) rfl fun E=>by
 unfold konst_Ln2
 refine .g 9 rfl<|.sv (.sl [[(.fn 219 [] []),(.int .i64 3),(.int .i64 1)]]) [] rfl (snd_buildSlice _ _ _ 3 _ _ [(0,(.agg [(.fn 219 [] []),(.int .i64 3),(.int .i64 1)]))] [[(.fn 219 [] []),(.int .i64 3),(.int .i64 1)]] rfl underlying176 ze121 si121 rfl rfl rfl (by decide) (by decide) (by decide) rfl rfl (by intro e he; simp at he; rcases he with rfl<;>rfl) rfl) rfl<|.bind fun x2 h1=>.st rfl (cl (CC.h h1) [0] [] [true] rfl (.p rfl<|.cons (ren_slL (.cons (.cons (ren_fnL _ .nil .nil)<|.i<|.i<|.nil) .nil))<|.nil) (.p rfl (.i<|.i<|.nil) .nil) fnil (.cons (.v (.i<|.i<|.nil)) .nil) (ren_sl _) (.turned .nil) rfl) rfl<|.ix rfl rfl<|.g 5 rfl<|.fi rfl rfl
instance cv_Out_i (a0:AI) (a1:Int) (a2:Int):CC (cv_Out a0 a1 a2) Tryz.prog 174 [(.ptr 0 0),(.agg (kI.enc a0))] [(.live 47 [(.int .i64 a1),(.int .i64 a2)])] (fun r=>(.agg (kI.enc (⟨⟨(((r.1).Lo).M),((r.1).Lo).E⟩,⟨(((r.1).Hi).M),((r.1).Hi).E⟩⟩:AI)))) (fun r=>[(.live 47 [(.int .i64 r.2),(.int .i64 a2)])]):=cc func174 (by kernel_rfl) rfl fun E=>by
 unfold cv_Out
 refine .g 11 rfl<|.st rfl (bs kI [a0] rfl rfl) rfl<|.bind fun x5 h1=>.st rfl (cl (CC.h h1) [0] [] [true] rfl (.p rfl<|.l<|.nil) (.p rfl (.i<|.i<|.nil) .nil) fnil (.cons (.v (.i<|.i<|.nil)) .nil) (.bool _) (.turned .nil) rfl) rfl<|.g 3 rfl<|?_
 refine .cd rfl (fun _ _=>?_) fun _ _=>?_
 ·refine .g 8 rfl<|.fi rfl rfl
 ·refine .g 7 rfl<|.bind fun x6 h4=>.st rfl (cl (CC.h h4) [0] [] [true] rfl (.p rfl<|.a kD<|.nil) (.p rfl (.i<|.i<|.nil) .nil) fnil (.cons (.v (.i<|.i<|.nil)) .nil) (ren_agg (K:=kD) _) (.turned .nil) rfl) rfl<|.g 11 rfl<|.bind fun x7 h5=>.st rfl (cl (CC.h h5) [0] [] [true] rfl (.p rfl<|.a kD<|.nil) (.p rfl (.i<|.i<|.nil) .nil) fnil (.cons (.v (.i<|.i<|.nil)) .nil) (ren_agg (K:=kD) _) (.turned .nil) rfl) rfl<|.bind fun x8 h6=>.st rfl (cl (CC.h h6) [0] [] [false] rfl (.p rfl<|.a kD<|.a kD<|.nil) (.p rfl (.i<|.i<|.nil) .nil) fnil (.cons (.v (.i<|.i<|.nil)) .nil) (ren_agg (K:=kI) _) (.kept rfl .nil) rfl) rfl<|.g 1 rfl<|.dn (by kernel_rfl)<|.g 2 rfl<|.fi rfl rfl
instance expo_done_i (a0:AI) (a1:Int) (a2:Int) (a3:Int):CC (expo_done a0 a1 a2 a3) Tryz.prog 220 [(.ptr 0 0),(.agg (kI.enc a0)),(.int .i64 a1)] [(.live 47 [(.int .i64 a2),(.int .i64 a3)])] (fun r=>(.tup [(.agg (kI.enc (⟨⟨(((r.1).Lo).M),((r.1).Lo).E⟩,⟨(((r.1).Hi).M),((r.1).Hi).E⟩⟩:AI))),(.int .i64 r.2)])) (fun r=>[(.live 47 [(.int .i64 a2),(.int .i64 a3)])]):=cc func220 (by kernel_rfl) rfl fun E=>by
 unfold expo_done
 refine .g 13 rfl<|.bind fun x7 h1=>.st rfl (cl (CC.h h1) [0] [] [false] rfl (.p rfl<|.nil) (.p rfl (.i<|.i<|.nil) .nil) fnil (.cons (.v (.i<|.i<|.nil)) .nil) (.int _ _) (.kept rfl .nil) rfl) rfl<|.g 9 rfl<|?_
 refine .cd rfl (fun _ _=>?_) fun _ _=>?_
 ·refine .g 10 rfl<|.fi rfl rfl
 ·refine .g 5 rfl<|.bind fun x8 h4=>?_
  rcases x8 with x9 | x10
  ·dsimp only
   refine .st rfl (cl (iv_New_k_0 h4) [] [3] [true] rfl (.i<|.nil) .nil (fresh_cons rfl fnil) (.cons .dead .nil) (ren_tupL (.cons .nilptr<|.i<|.nil)) (.turned .nil) rfl) rfl<|.g 11 rfl<|.no
  ·dsimp only
   refine .st rfl (cl (iv_New_k_1 h4) [] [3] [true] rfl (.i<|.nil) .nil (fresh_cons rfl fnil) (.cons (.v (.i<|.i<|.nil)) .nil) (ren_tupL (.p rfl<|.i<|.nil)) (.turned .nil) rfl) rfl<|.g 11 rfl<|.bind fun x11 h5=>.st rfl (cl (CC.h h5) [3] [] [true] rfl (.p rfl<|.a kI<|.nil) (.p rfl (.i<|.i<|.nil) .nil) fnil (.cons (.v (.i<|.i<|.nil)) .nil) (ren_agg (K:=kI) _) (.turned .nil) rfl) rfl<|.g 10 rfl<|.bind fun x12 h6=>.st rfl (cl (CC.h h6) [3] [] [false] rfl (.p rfl<|.nil) (.p rfl (.i<|.i<|.nil) .nil) fnil (.cons (.v (.i<|.i<|.nil)) .nil) (.int _ _) (.kept rfl .nil) rfl) rfl<|.g 2 rfl<|.dn (by kernel_rfl)<|.g 2 rfl<|.fi rfl rfl
instance expo_Ln_i (a0:AD) (a1:Int):PC (expo_Ln a0 a1) Tryz.prog 147 [(.agg (kD.enc a0)),(.int .i64 a1)] (fun r=>(.tup [(.agg (kI.enc (⟨⟨(((r.1).Lo).M),((r.1).Lo).E⟩,⟨(((r.1).Hi).M),((r.1).Hi).E⟩⟩:AI))),(.int .i64 r.2)])):=pc func147 (by kernel_rfl) rfl fun E=>by
 unfold expo_Ln
 refine .g 12 rfl<|.st rfl (bs kD [a0] rfl rfl) rfl<|.p0 rfl rfl fun x36 _=>.g 3 rfl<|?_
 refine .cd rfl (fun _ _=>?_) fun _ _=>?_
 ·refine .g 9 rfl<|.fi rfl rfl
 ·refine .g 5 rfl<|.p0 rfl rfl fun x37 _=>.g 9 rfl<|?_
  refine .cut (fun x:Bool=>(expo_Ln_j1 a1 a0 x37 x,[eI 1 a1,eP 2 0,eP 4 1,eI 6 x37.1,eB 33 x],[(0,(.live 26 [(.bool a0.M.Neg),(slK (kInt .u32) a0.M.Mag),(.int .i64 a0.E)])),(1,(.live 37 [(.bool false),(slK (kInt .u32) []),(.int .i64 0),(.bool false),(slK (kInt .u32) []),(.int .i64 0)]))])) ?_ ?_
  ·rintro y38
   dsimp only [expo_Ln_j1]
   refine .g 1 rfl<|?_
   refine .cd rfl (fun _ _=>?_) fun _ _=>?_
   ·refine .g 9 rfl<|.fi rfl rfl
   ·refine .g 6 rfl<|.bind fun x39 h8=>?_
    rcases x39 with x40 | x41
    ·dsimp only
     refine .st rfl (cl (iv_New_k_0 h8) [] [2] [true] rfl (.i<|.nil) .nil (fresh_cons rfl fnil) (.cons .dead .nil) (ren_tupL (.cons .nilptr<|.i<|.nil)) (.turned .nil) rfl) rfl<|.g 19 rfl<|.no
    ·dsimp only
     refine .st rfl (cl (iv_New_k_1 h8) [] [2] [true] rfl (.i<|.nil) .nil (fresh_cons rfl fnil) (.cons (.v (.i<|.i<|.nil)) .nil) (ren_tupL (.p rfl<|.i<|.nil)) (.turned .nil) rfl) rfl<|.g 19 rfl<|.bind fun x42 h9=>.st rfl (cl (CC.h h9) [2] [] [true] rfl (.p rfl<|.a kD<|.nil) (.p rfl (.i<|.i<|.nil) .nil) fnil (.cons (.v (.i<|.i<|.nil)) .nil) (ren_agg (K:=kI) _) (.turned .nil) rfl) rfl<|.g 2 rfl<|.bind fun x43 h10=>.st rfl (cl (CC.h h10) [2] [] [true] rfl (.p rfl<|.a kI<|.i<|.nil) (.p rfl (.i<|.i<|.nil) .nil) fnil (.cons (.v (.i<|.i<|.nil)) .nil) (ren_agg (K:=kI) _) (.turned .nil) rfl) rfl<|.g 7 rfl<|.st rfl (bs (kInt .u32) [3] rfl rfl) rfl<|.g 7 rfl<|?_
     refine .cut (fun x:Bool=>(expo_Ln_j2 x43 x41 a1 x37 x,[eI 1 a1,eP 4 1,eP 8 2,eI 10 (IntKind.i64.wrap (x37.1-1)),eP 11 3,eB 64 x],[(1,(.live 37 [(.bool false),(slK (kInt .u32) []),(.int .i64 0),(.bool false),(slK (kInt .u32) []),(.int .i64 0)])),(2,(.live 47 [(.int .i64 x43.2),(.int .i64 x41.2.2)])),(3,(.live 37 [(.bool ((((x43.1).Lo).M).Neg)),(slK (kInt .u32) ((((x43.1).Lo).M).Mag)),(.int .i64 (((x43.1).Lo).E)),(.bool ((((x43.1).Hi).M).Neg)),(slK (kInt .u32) ((((x43.1).Hi).M).Mag)),(.int .i64 (((x43.1).Hi).E))]))])) ?_ ?_
     ·rintro y46
      dsimp only [expo_Ln_j2]
      refine .g 1 rfl<|?_
      refine .cut (fun x:Int × Int × Bool × (List Int) × Int × Bool × (List Int) × Int=>(expo_Ln_j3 x41 a1 x.1 x.2.1 x.2.2.1 x.2.2.2.1 x.2.2.2.2.1 x.2.2.2.2.2.1 x.2.2.2.2.2.2.1 x.2.2.2.2.2.2.2,[eI 1 a1,eP 4 1,eP 8 2,eI 10 x.1,eP 11 3],[(1,(.live 37 [(.bool false),(slK (kInt .u32) []),(.int .i64 0),(.bool false),(slK (kInt .u32) []),(.int .i64 0)])),(2,(.live 47 [(.int .i64 x.2.1),(.int .i64 x41.2.2)])),(3,(.live 37 [(.bool x.2.2.1),(slK (kInt .u32) x.2.2.2.1),(.int .i64 x.2.2.2.2.1),(.bool x.2.2.2.2.2.1),(slK (kInt .u32) x.2.2.2.2.2.2.1),(.int .i64 x.2.2.2.2.2.2.2)]))])) ?_ ?_
      ·rintro ⟨y48,y49,y50,y51,y52,y53,y54,y55⟩
       dsimp only [expo_Ln_j3]
       refine .g 6 rfl<|.bind fun x56 h17=>.st rfl (cl (CC.h h17) [2] [] [true] rfl (.p rfl<|.i<|.nil) (.p rfl (.i<|.i<|.nil) .nil) fnil (.cons (.v (.i<|.i<|.nil)) .nil) (ren_agg (K:=kI) _) (.turned .nil) rfl) rfl<|.bind fun x57 h18=>.st rfl (cl (CC.h h18) [2] [] [true] rfl (.p rfl<|.a kI<|.a kI<|.nil) (.p rfl (.i<|.i<|.nil) .nil) fnil (.cons (.v (.i<|.i<|.nil)) .nil) (ren_agg (K:=kI) _) (.turned .nil) rfl) rfl<|.g 2 rfl<|.dn (by kernel_rfl)<|.g 8 rfl<|.bind fun x58 h19=>.st rfl (cl (CC.h h19) [2] [] [true] rfl (.p rfl<|.i<|.nil) (.p rfl (.i<|.i<|.nil) .nil) fnil (.cons (.v (.i<|.i<|.nil)) .nil) (ren_agg (K:=kI) _) (.turned .nil) rfl) rfl<|.bind fun x59 h20=>.st rfl (cl (CC.h h20) [2] [] [true] rfl (.p rfl<|.a kI<|.a kI<|.nil) (.p rfl (.i<|.i<|.nil) .nil) fnil (.cons (.v (.i<|.i<|.nil)) .nil) (ren_agg (K:=kI) _) (.turned .nil) rfl) rfl<|.bind fun x60 h21=>.st rfl (cl (CC.h h21) [2] [] [true] rfl (.p rfl<|.a kI<|.a kI<|.nil) (.p rfl (.i<|.i<|.nil) .nil) fnil (.cons (.v (.i<|.i<|.nil)) .nil) (ren_agg (K:=kI) _) (.turned .nil) rfl) rfl<|?_
       refine .g 2 rfl<|.dn (by kernel_rfl)<|.g 6 rfl<|.bind fun x61 h22=>.st rfl (cl (CC.h h22) [2] [] [true] rfl (.p rfl<|.a kI<|.nil) (.p rfl (.i<|.i<|.nil) .nil) fnil (.cons (.v (.i<|.i<|.nil)) .nil) (ren_agg (K:=kI) _) (.turned .nil) rfl) rfl<|.bind fun x62 h23=>.st rfl (cl (CC.h h23) [2] [] [true] rfl (.p rfl<|.a kI<|.i<|.nil) (.p rfl (.i<|.i<|.nil) .nil) fnil (.cons (.v (.i<|.i<|.nil)) .nil) (ren_agg (K:=kI) _) (.turned .nil) rfl) rfl<|.g 12 rfl<|.bind fun x63 h24=>.st rfl (cl (CC.h h24) [2] [] [true] rfl (.p rfl<|.i<|.nil) (.p rfl (.i<|.i<|.nil) .nil) fnil (.cons (.v (.i<|.i<|.nil)) .nil) (ren_agg (K:=kI) _) (.turned .nil) rfl) rfl<|.g 1 rfl<|.bind fun x64 h25=>.st rfl (cl (CC.h h25) [2] [] [true] rfl (.p rfl<|.nil) (.p rfl (.i<|.i<|.nil) .nil) fnil (.cons (.v (.i<|.i<|.nil)) .nil) (ren_agg (K:=kI) _) (.turned .nil) rfl) rfl<|.bind fun x65 h26=>?_
       refine .st rfl (cl (CC.h h26) [2] [] [true] rfl (.p rfl<|.a kI<|.a kI<|.nil) (.p rfl (.i<|.i<|.nil) .nil) fnil (.cons (.v (.i<|.i<|.nil)) .nil) (ren_agg (K:=kI) _) (.turned .nil) rfl) rfl<|.bind fun x66 h27=>.st rfl (cl (CC.h h27) [2] [] [true] rfl (.p rfl<|.a kI<|.a kI<|.nil) (.p rfl (.i<|.i<|.nil) .nil) fnil (.cons (.v (.i<|.i<|.nil)) .nil) (ren_agg (K:=kI) _) (.turned .nil) rfl) rfl<|.g 1 rfl<|.bind fun x67 h28=>.st rfl (cl (CC.h h28) [2] [] [false] rfl (.p rfl<|.a kI<|.i<|.nil) (.p rfl (.i<|.i<|.nil) .nil) fnil (.cons (.v (.i<|.i<|.nil)) .nil) (ren_tupL (.a kI<|.i<|.nil)) (.kept rfl .nil) rfl) rfl<|.g 4 rfl<|.dn (by kernel_rfl)<|.g 2 rfl<|.fi rfl rfl
      ·intro h29
       refine .cd rfl (fun _ _=>?_) fun _ _=>?_
       ·refine .g 3 rfl<|.bind fun x68 h32=>.st rfl (cl (CC.h h32) [2] [] [true] rfl (.p rfl<|.a kI<|.i<|.nil) (.p rfl (.i<|.i<|.nil) .nil) fnil (.cons (.v (.i<|.i<|.nil)) .nil) (ren_agg (K:=kI) _) (.turned .nil) rfl) rfl<|.g 5 rfl<|.jw (h29 ((IntKind.i64.wrap ((IntKind.i64.wrap (x37.1-1))+1)),x68.2,(((x68.1).Lo).M).Neg,(((x68.1).Lo).M).Mag,((x68.1).Lo).E,(((x68.1).Hi).M).Neg,(((x68.1).Hi).M).Mag,((x68.1).Hi).E)) [(1,1),(2,2),(3,3)] rfl
       ·refine .g 1 rfl<|.jw (h29 ((IntKind.i64.wrap (x37.1-1)),x43.2,(((x43.1).Lo).M).Neg,(((x43.1).Lo).M).Mag,((x43.1).Lo).E,(((x43.1).Hi).M).Neg,(((x43.1).Hi).M).Mag,((x43.1).Hi).E)) [(1,1),(2,2),(3,3)] rfl
     ·intro h33
      refine .g 4 rfl<|.bind fun x69 h34=>.st rfl (cl (CC.h h34) [2] [] [false] rfl (.p rfl<|.nil) (.p rfl (.i<|.i<|.nil) .nil) fnil (.cons (.v (.i<|.i<|.nil)) .nil) (.int _ _) (.kept rfl .nil) rfl) rfl<|.g 2 rfl<|?_
      refine .gd 58 rfl (fun _=>?_) fun _=>?_
      ·refine .g 3 rfl<|.p0 rfl rfl fun x70 _=>.g 3 rfl<|.jw (h33 (decide (x70≥0))) [(1,1),(2,2),(3,3)] rfl
      ·refine .g 7 rfl<|.jw (h33 false) [(1,1),(2,2),(3,3)] rfl
  ·intro h37
   refine .g 4 rfl<|?_
   refine .gd 29 rfl (fun _=>?_) fun _=>?_
   ·refine .g 5 rfl<|.jw (h37 true) [(0,0),(1,1)] rfl
   ·refine .g 5 rfl<|.jw (h37 a0.M.Neg) [(0,0),(1,1)] rfl
instance expo_both_38f1_i (a0:AI) (a1:Int):PC (expo_both_38f1 a0 a1) Tryz.prog 146 [(.agg (kI.enc a0)),(.int .i64 a1),(.fn 147 [] [])] (fun r=>(.tup [(.agg (kI.enc (⟨⟨(((r.1).Lo).M),((r.1).Lo).E⟩,⟨(((r.1).Hi).M),((r.1).Hi).E⟩⟩:AI))),(.int .i64 r.2)])):=pc func146 (by kernel_rfl) rfl fun E=>by
 unfold expo_both_38f1
 refine .g 9 rfl<|?_
 refine .cut (fun x:Bool=>(expo_both_38f1_j1 a0 a1 x,[eI 1 a1,(2,some (.fn 147 [] [])),eP 3 0,eP 6 1,eB 23 x],[(0,(.live 37 [(.bool a0.Lo.M.Neg),(slK (kInt .u32) a0.Lo.M.Mag),(.int .i64 a0.Lo.E),(.bool a0.Hi.M.Neg),(slK (kInt .u32) a0.Hi.M.Mag),(.int .i64 a0.Hi.E)])),(1,(.live 37 [(.bool false),(slK (kInt .u32) []),(.int .i64 0),(.bool false),(slK (kInt .u32) []),(.int .i64 0)]))])) ?_ ?_
 ·rintro y10
  dsimp only [expo_both_38f1_j1]
  refine .g 1 rfl<|?_
  refine .cd rfl (fun _ _=>?_) fun _ _=>?_
  ·refine .g 9 rfl<|.fi rfl rfl
  ·refine .g 8 rfl<|.p0 rfl rfl fun x11 _=>.g 15 rfl<|?_
   refine .cd rfl (fun _ _=>?_) fun _ _=>?_
   ·refine .g 10 rfl<|.fi rfl rfl
   ·refine .g 8 rfl<|.p0 rfl rfl fun x12 _=>.g 15 rfl<|?_
    refine .cd rfl (fun _ _=>?_) fun _ _=>?_
    ·refine .g 10 rfl<|.fi rfl rfl
    ·refine .g 14 rfl<|.fi rfl rfl
 ·intro h12
  refine .g 2 rfl<|.p0 rfl rfl fun x13 _=>.g 2 rfl<|?_
  refine .gd 14 rfl (fun _=>?_) fun _=>?_
  ·refine .g 10 rfl<|.jw (h12 true) [(0,0),(1,1)] rfl
  ·refine .g 5 rfl<|.st rfl (bs kD [a0.Lo,a0.Hi] rfl rfl) rfl<|.p0 rfl rfl fun x14 _=>.g 3 rfl<|.jw (h12 (!x14)) [(0,0),(1,1)] rfl
instance expo_LnOf_i (a0:AI) (a1:Int):PC (expo_LnOf a0 a1) Tryz.prog 72 [(.agg (kI.enc a0)),(.int .i64 a1)] (fun r=>(.tup [(.agg (kI.enc (⟨⟨(((r.1).Lo).M),((r.1).Lo).E⟩,⟨(((r.1).Hi).M),((r.1).Hi).E⟩⟩:AI))),(.int .i64 r.2)])):=pc func72 (by kernel_rfl) rfl fun E=>by
 unfold expo_LnOf
 refine .g 11 rfl<|.p0 rfl rfl fun x2 _=>.g 7 rfl<|.fi rfl rfl
instance gamm_work_ln_i (a0:AI) (a1:Int) (a2:Int) (a3:Int):CC (gamm_work_ln a0 a1 a2 a3) Tryz.prog 214 [(.ptr 0 0),(.agg (kI.enc a0))] [(.live 188 [(.ptr 1 0),(.int .i64 a1)]),(.live 47 [(.int .i64 a2),(.int .i64 a3)])] (fun r=>(.agg (kI.enc (⟨⟨(((r.1).Lo).M),((r.1).Lo).E⟩,⟨(((r.1).Hi).M),((r.1).Hi).E⟩⟩:AI)))) (fun r=>[(.live 188 [(.ptr 1 0),(.int .i64 r.2)]),(.live 47 [(.int .i64 a2),(.int .i64 a3)])]):=cc func214 (by kernel_rfl) rfl fun E=>by
 unfold gamm_work_ln
 refine .g 10 rfl<|.bind fun x4 h1=>.st rfl (cl (CC.h h1) [0,1] [] [false,false] rfl (.p rfl<|.nil) (.p rfl (.p rfl<|.i<|.nil) (.p rfl (.i<|.i<|.nil) .nil)) fnil (.cons (.v (.p rfl<|.i<|.nil)) (.cons (.v (.i<|.i<|.nil)) .nil)) (.int _ _) (.kept rfl (.kept rfl .nil)) rfl) rfl<|.g 3 rfl<|?_
 refine .cd rfl (fun _ _=>?_) fun _ _=>?_
 ·refine .g 8 rfl<|.fi rfl rfl
 ·refine .g 15 rfl<|.bind fun x5 h4=>.st rfl (cl (CC.h h4) [1] [] [false] rfl (.p rfl<|.nil) (.p rfl (.i<|.i<|.nil) .nil) fnil (.cons (.v (.i<|.i<|.nil)) .nil) (.int _ _) (.kept rfl .nil) rfl) rfl<|.p0 rfl rfl fun x6 _=>.g 7 rfl<|.dn (by kernel_rfl)<|.g 8 rfl<|.fi rfl rfl
theorem gamm_work_ln_kp {a0:AI} {a1:Int} {a2:Int} {a3:Int} {r:AI × Int} (h:gamm_work_ln a0 a1 a2 a3=some r) (k:r.2=a1):Cal Tryz.prog 214 [(.ptr 0 0),(.agg (kI.enc a0))] [(.live 188 [(.ptr 1 0),(.int .i64 a1)]),(.live 47 [(.int .i64 a2),(.int .i64 a3)])] (.agg (kI.enc (⟨⟨(((r.1).Lo).M),((r.1).Lo).E⟩,⟨(((r.1).Hi).M),((r.1).Hi).E⟩⟩:AI))) [(.live 188 [(.ptr 1 0),(.int .i64 a1)]),(.live 47 [(.int .i64 a2),(.int .i64 a3)])]:=by
 have c:Cal Tryz.prog 214 [(.ptr 0 0),(.agg (kI.enc a0))] [(.live 188 [(.ptr 1 0),(.int .i64 a1)]),(.live 47 [(.int .i64 a2),(.int .i64 a3)])] (.agg (kI.enc (⟨⟨(((r.1).Lo).M),((r.1).Lo).E⟩,⟨(((r.1).Hi).M),((r.1).Hi).E⟩⟩:AI))) [(.live 188 [(.ptr 1 0),(.int .i64 r.2)]),(.live 47 [(.int .i64 a2),(.int .i64 a3)])]:=CC.h h
 rw [k] at c
 exact c
instance small_odd_1_df97_i (a0:Int) (a1:AI) (a2:Int) (a3:Int) (a4:Bool) (a5:List Int) (a6:Int) (a7:Bool) (a8:List Int) (a9:Int):CC (small_odd_1_df97 a0 a1 a2 a3 a4 a5 a6 a7 a8 a9) Tryz.prog 239 [(.int .i64 a0),(.agg (kI.enc a1)),(.ptr 0 0),(.ptr 2 0),(.ptr 3 0)] [(.live 60 [(.fn 42 [(.ptr 1 0)] [])]),(.live 47 [(.int .i64 a2),(.int .i64 a3)]),(.live 29 [(.ptr 1 0)]),(.live 37 [(.bool a4),(slK (kInt .u32) a5),(.int .i64 a6),(.bool a7),(slK (kInt .u32) a8),(.int .i64 a9)])] (fun r=>(.tup [(.agg (kI.enc (⟨⟨(((r.1).Lo).M),((r.1).Lo).E⟩,⟨(((r.1).Hi).M),((r.1).Hi).E⟩⟩:AI))),(.agg (kI.enc (⟨⟨(((r.2.1).Lo).M),((r.2.1).Lo).E⟩,⟨(((r.2.1).Hi).M),((r.2.1).Hi).E⟩⟩:AI)))])) (fun r=>[(.live 60 [(.fn 42 [(.ptr 1 0)] [])]),(.live 47 [(.int .i64 r.2.2),(.int .i64 a3)]),(.live 29 [(.ptr 1 0)]),(.live 37 [(.bool a4),(slK (kInt .u32) a5),(.int .i64 a6),(.bool a7),(slK (kInt .u32) a8),(.int .i64 a9)])]):=cc func239 (by kernel_rfl) rfl fun E=>by
 unfold small_odd_1_df97
 refine .g 13 rfl<|.bind fun x5 h1=>.st rfl (cl (CC.h h1) [1] [] [true] rfl (.p rfl<|.a kI<|.a kI<|.nil) (.p rfl (.i<|.i<|.nil) .nil) fnil (.cons (.v (.i<|.i<|.nil)) .nil) (ren_agg (K:=kI) _) (.turned .nil) rfl) rfl<|.bind fun x6 h2=>.st rfl (cl (CC.h h2) [1] [] [true] rfl (.p rfl<|.a kI<|.nil) (.p rfl (.i<|.i<|.nil) .nil) fnil (.cons (.v (.i<|.i<|.nil)) .nil) (ren_agg (K:=kI) _) (.turned .nil) rfl) rfl<|.g 1 rfl<|.dn (by kernel_rfl)<|.g 10 rfl<|.bind fun x7 h3=>.st rfl (cl (CC.h h3) [1] [] [true] rfl (.p rfl<|.i<|.nil) (.p rfl (.i<|.i<|.nil) .nil) fnil (.cons (.v (.i<|.i<|.nil)) .nil) (ren_agg (K:=kI) _) (.turned .nil) rfl) rfl<|.bind fun x8 h4=>.st rfl (cl (CC.h h4) [1] [] [true] rfl (.p rfl<|.a kI<|.a kI<|.nil) (.p rfl (.i<|.i<|.nil) .nil) fnil (.cons (.v (.i<|.i<|.nil)) .nil) (ren_agg (K:=kI) _) (.turned .nil) rfl) rfl<|.g 2 rfl<|.dn (by kernel_rfl)<|?_
 refine .g 2 rfl<|.fi rfl rfl
end Go.Proofs.YtjfcghliglfapabGreat.Gen
