/- Printed by geng.py: a call does what the plain function says. -/
import Derived.Test.YtjfcghliglfapabGreatTrigAtanGenP5
set_option maxRecDepth 4000
namespace Go.Proofs.YtjfcghliglfapabGreat.Gen
open Go Go.Abs Go.Proofs Go.Proofs.Tryz
instance r06_CDiv_i (a0:AI) (a1:AI) (a2:Int) (a3:Int):CC (r06_CDiv a0 a1 a2 a3) Tryz.prog 109 [(.ptr 0 0),(.agg (kI.enc a0)),(.agg (kI.enc a1))] [(.live 162 [(.int .i64 a2),(.int .i64 a3)])] (fun r=>(.agg (kI.enc (⟨⟨(((r.1).Lo).M),((r.1).Lo).E⟩,⟨(((r.1).Hi).M),((r.1).Hi).E⟩⟩:AI)))) (fun r=>[(.live 162 [(.int .i64 a2),(.int .i64 r.2)])]):=cc func109 (by kernel_rfl) rfl fun E=>by
 unfold r06_CDiv
 refine .g 13 rfl<|.st rfl (bs kI [a0,a1] rfl rfl) rfl<|.bind fun x122 h1=>.st rfl (cl (CC.h h1) [0] [] [true] rfl (.p rfl<|.l<|.nil) (.p rfl (.i<|.i<|.nil) .nil) fnil (.cons (.v (.i<|.i<|.nil)) .nil) (.bool _) (.turned .nil) rfl) rfl<|.g 3 rfl<|?_
 refine .cd rfl (fun _ _=>?_) fun _ _=>?_
 ·refine .g 8 rfl<|.fi rfl rfl
 ·refine .g 7 rfl<|.p0 rfl rfl fun x123 _=>.g 2 rfl<|?_
  refine .cd rfl (fun _ _=>?_) fun _ _=>?_
  ·refine .g 3 rfl<|.bind fun x124 h7=>.st rfl (cl (CC.h h7) [0] [] [true] rfl (.p rfl<|.i<|.nil) (.p rfl (.i<|.i<|.nil) .nil) fnil (.cons (.v (.i<|.i<|.nil)) .nil) (.bool _) (.turned .nil) rfl) rfl<|.g 10 rfl<|.fi rfl rfl
  ·refine .g 12 rfl<|.st rfl (bs kD [a0.Lo,a0.Lo,a0.Hi,a0.Hi] rfl rfl) rfl<|.g 13 rfl<|.st rfl (bs kD [a1.Lo,a1.Hi,a1.Lo,a1.Hi] rfl rfl) rfl<|.g 19 rfl<|?_
   refine .cut (fun x:Int × (List AD) × (List AD)=>(r06_CDiv_j1 a2 x.1 x.2.1 x.2.2,[eP 0 0,eP 6 3,(9,some (grA kD 4 x.2.1)),(10,some (grA kD 5 x.2.2))],[(0,(.live 162 [(.int .i64 a2),(.int .i64 x.1)])),(3,(.live 37 [(.bool false),(slK (kInt .u32) []),(.int .i64 0),(.bool false),(slK (kInt .u32) []),(.int .i64 0)])),(4,(grV kD 26 x.2.1)),(5,(grV kD 26 x.2.2))])) ?_ ?_
   ·rintro ⟨y181,y182,y183⟩
    dsimp only [r06_CDiv_j1]
    refine .g 2 rfl<|?_
    refine .weak ?_ (fun a w h=>Conc.gr_still kD h 9 4 26 y182 rfl rfl)
    refine .weak ?_ (fun a w h=>Conc.gr_still kD h 10 5 26 y183 rfl rfl)
    refine .g 3 rfl<|.p0 rfl rfl fun x184 _=>.g 1 rfl<|.p0 rfl rfl fun x185 _=>.bind fun x186 h110=>.st rfl (cl (CC.h h110) [0] [] [false] rfl (.p rfl<|.a kD<|.a kD<|.nil) (.p rfl (.i<|.i<|.nil) .nil) fnil (.cons (.v (.i<|.i<|.nil)) .nil) (ren_agg (K:=kI) _) (.kept rfl .nil) rfl) rfl<|.g 4 rfl<|.fi rfl rfl
   ·intro h111
    refine .g 1 rfl<|?_
    refine .weak ?_ (fun a w h=>Conc.gr_nil kD h 9 4 26 rfl)
    refine .weak ?_ (fun a w h=>Conc.gr_nil kD h 10 5 26 rfl)
    refine .lo (fun n (x:Int × Int × (List AD) × (List AD))=>r06_CDiv_l2 a0 a1 a2 n x.1 x.2.1 x.2.2.1 x.2.2.2) (fun x=>([eP 0 0,eP 6 3,eK kD 7 [a0.Lo,a0.Lo,a0.Hi,a0.Hi],eK kD 8 [a1.Lo,a1.Hi,a1.Lo,a1.Hi],(9,some (grA kD 4 x.2.2.1)),(10,some (grA kD 5 x.2.2.2)),eI 11 x.1],[(0,(.live 162 [(.int .i64 a2),(.int .i64 x.2.1)])),(3,(.live 37 [(.bool false),(slK (kInt .u32) []),(.int .i64 0),(.bool false),(slK (kInt .u32) []),(.int .i64 0)])),(4,(grV kD 26 x.2.2.1)),(5,(grV kD 26 x.2.2.2))])) (0,x122.2,[],[]) rfl (fun hE=>jn (m:=1) [(0,0),(3,3),(4,4),(5,5)] hE (.p rfl rfl<|.p rfl rfl<|.l rfl<|.l rfl<|.g rfl (ren_gr (K:=kD) (by rfl) [])<|.g rfl (ren_gr (K:=kD) (by rfl) [])<|.i rfl<|.nil) (.v rfl (.i<|.i<|.nil)<|.v rfl (.b<|.l<|.i<|.b<|.l<|.i<|.nil)<|.cons (.refl _) (renV_gr (K:=kD) 26 [])<|.cons (.refl _) (renV_gr (K:=kD) 26 [])<|.nil) rfl) ?_
    rintro n2 ⟨y223,y224,y225,y226⟩
    try dsimp only
    rw [r06_CDiv_l2]
    refine .g 7 rfl<|?_
    refine .cd rfl (fun _ _=>?_) fun _ _=>?_
    ·refine .g 8 rfl<|.ix rfl rfl<|.g 3 rfl<|.ix rfl rfl<|.g 5 rfl<|.p0 rfl rfl fun x235 _=>.g 6 rfl<|.dn (by kernel_rfl)<|.g 5 rfl<|.ix rfl rfl<|.g 3 rfl<|.ix rfl rfl<|.g 5 rfl<|.p0 rfl rfl fun x236 _=>?_
     refine .g 6 rfl<|.dn (by kernel_rfl)<|.g 3 rfl<|?_
     refine .cut (fun x:Bool × Int=>(r06_CDiv_j3 x235 y225 x236 y226 (fun z0 z1 z2 z3=>r06_CDiv_l2 a0 a1 a2 n2 z0 z1 z2 z3) y223 x.1 x.2,[eP 0 0,eP 6 3,eK kD 7 [a0.Lo,a0.Lo,a0.Hi,a0.Hi],eK kD 8 [a1.Lo,a1.Hi,a1.Lo,a1.Hi],(9,some (grA kD 4 y225)),(10,some (grA kD 5 y226)),eI 11 y223,eP 12 1,eP 14 2,eB 92 x.1],[(0,(.live 162 [(.int .i64 a2),(.int .i64 x.2)])),(3,(.live 37 [(.bool false),(slK (kInt .u32) []),(.int .i64 0),(.bool false),(slK (kInt .u32) []),(.int .i64 0)])),(4,(grV kD 26 y225)),(5,(grV kD 26 y226)),(1,(.live 26 [(.bool (((x235.1).M).Neg)),(slK (kInt .u32) (((x235.1).M).Mag)),(.int .i64 ((x235.1).E))])),(2,(.live 26 [(.bool (((x236.1).M).Neg)),(slK (kInt .u32) (((x236.1).M).Mag)),(.int .i64 ((x236.1).E))]))])) ?_ ?_
     ·rintro ⟨y239,y240⟩
      dsimp only [r06_CDiv_j3]
      refine .g 1 rfl<|?_
      refine .cd rfl (fun _ _=>?_) fun _ _=>?_
      ·refine .g 13 rfl<|.fi rfl rfl
      ·refine .g 6 rfl<|.st rfl (bs kD [(⟨((x235.1).M),(x235.1).E⟩:AD)] rfl rfl) rfl<|.guard fun h207=>.sv (.row 6 kD.sz 0 (((y225++[(⟨((x235.1).M),(x235.1).E⟩:AD)])).length)) [(6,(rwK kD 26 (y225++[(⟨((x235.1).M),(x235.1).E⟩:AD)]))),(4,.dead)] rfl (snd_appendK_gr kD _ _ _ _ _ 4 6 y225 [(⟨((x235.1).M),(x235.1).E⟩:AD)] rfl underlying97 ze26 sb26 rfl rfl rfl rfl rfl rfl rfl h207) rfl<|.g 6 rfl<|.st rfl (bs kD [(⟨((x236.1).M),(x236.1).E⟩:AD)] rfl rfl) rfl<|.guard fun h208=>.sv (.row 7 kD.sz 0 (((y226++[(⟨((x236.1).M),(x236.1).E⟩:AD)])).length)) [(7,(rwK kD 26 (y226++[(⟨((x236.1).M),(x236.1).E⟩:AD)]))),(5,.dead)] rfl (snd_appendK_gr kD _ _ _ _ _ 5 7 y226 [(⟨((x236.1).M),(x236.1).E⟩:AD)] rfl underlying97 ze26 sb26 rfl rfl rfl rfl rfl rfl rfl h208) rfl<|.g 9 rfl<|?_
       refine .weak ?_ (fun a w h=>Conc.gr_row kD h 9 6 26 (y225++[(⟨((x235.1).M),(x235.1).E⟩:AD)]) rfl rfl (by first | omega | (simp only [List.length_append,List.length_cons,List.length_set]; omega) | simp))
       refine .weak ?_ (fun a w h=>Conc.gr_row kD h 10 7 26 (y226++[(⟨((x236.1).M),(x236.1).E⟩:AD)]) rfl rfl (by first | omega | (simp only [List.length_append,List.length_cons,List.length_set]; omega) | simp))
       exact .ao ((IntKind.i64.wrap (y223+1)),y240,(y225++[(⟨((x235.1).M),(x235.1).E⟩:AD)]),(y226++[(⟨((x236.1).M),(x236.1).E⟩:AD)])) rfl fun hE=>jn (m:=1) [(0,0),(3,3),(6,4),(7,5)] hE (.p rfl rfl<|.p rfl rfl<|.l rfl<|.l rfl<|.g rfl (ren_gr (K:=kD) (by rfl) (y225++[(⟨((x235.1).M),(x235.1).E⟩:AD)]))<|.g rfl (ren_gr (K:=kD) (by rfl) (y226++[(⟨((x236.1).M),(x236.1).E⟩:AD)]))<|.i rfl<|.nil) (.v rfl (.i<|.i<|.nil)<|.v rfl (.b<|.l<|.i<|.b<|.l<|.i<|.nil)<|.cons (.refl _) (renV_gr (K:=kD) 26 (y225++[(⟨((x235.1).M),(x235.1).E⟩:AD)]))<|.cons (.refl _) (renV_gr (K:=kD) 26 (y226++[(⟨((x236.1).M),(x236.1).E⟩:AD)]))<|.nil) rfl
     ·intro h209
      refine .g 3 rfl<|.bind fun x241 h210=>.st rfl (cl (CC.h h210) [0] [] [true] rfl (.p rfl<|.i<|.nil) (.p rfl (.i<|.i<|.nil) .nil) fnil (.cons (.v (.i<|.i<|.nil)) .nil) (.bool _) (.turned .nil) rfl) rfl<|.g 2 rfl<|?_
      refine .gd 87 rfl (fun _=>?_) fun _=>?_
      ·refine .g 6 rfl<|.jo (h209 (true,x241.2)) rfl fun hE=>jn (m:=1) [(0,0),(3,3),(4,4),(5,5),(1,1),(2,2)] hE (.p rfl rfl<|.p rfl rfl<|.l rfl<|.l rfl<|.g rfl (ren_gr (K:=kD) (by rfl) y225)<|.g rfl (ren_gr (K:=kD) (by rfl) y226)<|.i rfl<|.p rfl rfl<|.p rfl rfl<|.b rfl<|.nil) (.v rfl (.i<|.i<|.nil)<|.v rfl (.b<|.l<|.i<|.b<|.l<|.i<|.nil)<|.cons (.refl _) (renV_gr (K:=kD) 26 y225)<|.cons (.refl _) (renV_gr (K:=kD) 26 y226)<|.v rfl (.b<|.l<|.i<|.nil)<|.v rfl (.b<|.l<|.i<|.nil)<|.nil) rfl
      ·refine .g 2 rfl<|.bind fun x242 h212=>.st rfl (cl (CC.h h212) [0] [] [true] rfl (.p rfl<|.i<|.nil) (.p rfl (.i<|.i<|.nil) .nil) fnil (.cons (.v (.i<|.i<|.nil)) .nil) (.bool _) (.turned .nil) rfl) rfl<|.g 3 rfl<|.jo (h209 ((!x242.1),x242.2)) rfl fun hE=>jn (m:=1) [(0,0),(3,3),(4,4),(5,5),(1,1),(2,2)] hE (.p rfl rfl<|.p rfl rfl<|.l rfl<|.l rfl<|.g rfl (ren_gr (K:=kD) (by rfl) y225)<|.g rfl (ren_gr (K:=kD) (by rfl) y226)<|.i rfl<|.p rfl rfl<|.p rfl rfl<|.b rfl<|.nil) (.v rfl (.i<|.i<|.nil)<|.v rfl (.b<|.l<|.i<|.b<|.l<|.i<|.nil)<|.cons (.refl _) (renV_gr (K:=kD) 26 y225)<|.cons (.refl _) (renV_gr (K:=kD) 26 y226)<|.v rfl (.b<|.l<|.i<|.nil)<|.v rfl (.b<|.l<|.i<|.nil)<|.nil) rfl
    ·refine .g 4 rfl<|.jo (h111 (y224,y225,y226)) rfl fun hE=>jn (m:=1) [(0,0),(3,3),(4,4),(5,5)] hE (.p rfl rfl<|.p rfl rfl<|.g rfl (ren_gr (K:=kD) (by rfl) y225)<|.g rfl (ren_gr (K:=kD) (by rfl) y226)<|.nil) (.v rfl (.i<|.i<|.nil)<|.v rfl (.b<|.l<|.i<|.b<|.l<|.i<|.nil)<|.cons (.refl _) (renV_gr (K:=kD) 26 y225)<|.cons (.refl _) (renV_gr (K:=kD) 26 y226)<|.nil) rfl
instance r04_Mul_i (a0:ApiInt) (a1:ApiInt):PC (r04_Mul a0 a1) Tryz.prog 203 [(.agg (kN.enc a0)),(.agg (kN.enc a1))] (fun r=>(.agg (kN.enc (r)))):=pc func203 (by kernel_rfl) rfl fun E=>by
 unfold r04_Mul
 refine .g 18 rfl<|.p0 rfl rfl fun x3 _=>.p0 rfl rfl fun x4 _=>.g 1 rfl<|.dn (by kernel_rfl)<|.g 2 rfl<|.fi rfl rfl
instance r05_Mul_i (a0:AD) (a1:AD):PC (r05_Mul a0 a1) Tryz.prog 131 [(.agg (kD.enc a0)),(.agg (kD.enc a1))] (fun r=>(.tup [(.agg (kD.enc (⟨((r.1).M),(r.1).E⟩:AD))),(.int .i64 r.2)])):=pc func131 (by kernel_rfl) rfl fun E=>by
 unfold r05_Mul
 refine .g 11 rfl<|.p0 rfl rfl fun x7 _=>.g 6 rfl<|.p0 rfl rfl fun x8 _=>.g 5 rfl<|?_
 refine .cut (fun x:Bool=>(r05_Mul_j1 a0 a1 x,[eP 2 0,eP 3 1,eP 4 2,eB 17 x],[(0,(.live 26 [(.bool a0.M.Neg),(slK (kInt .u32) a0.M.Mag),(.int .i64 a0.E)])),(1,(.live 26 [(.bool a1.M.Neg),(slK (kInt .u32) a1.M.Mag),(.int .i64 a1.E)])),(2,(.live 26 [(.bool false),(slK (kInt .u32) []),(.int .i64 0)]))])) ?_ ?_
 ·rintro y9
  dsimp only [r05_Mul_j1]
  refine .g 1 rfl<|?_
  refine .cd rfl (fun _ _=>?_) fun _ _=>?_
  ·refine .g 9 rfl<|.fi rfl rfl
  ·refine .g 8 rfl<|.p0 rfl rfl fun x10 _=>.g 5 rfl<|.p0 rfl rfl fun x11 _=>.p0 rfl rfl fun x12 _=>.g 4 rfl<|.dn (by kernel_rfl)<|.g 2 rfl<|.fi rfl rfl
 ·intro h9
  refine .g 4 rfl<|?_
  refine .gd 14 rfl (fun _=>?_) fun _=>?_
  ·refine .g 4 rfl<|.jw (h9 true) [(0,0),(1,1),(2,2)] rfl
  ·refine .g 4 rfl<|.jw (h9 (!x8)) [(0,0),(1,1),(2,2)] rfl
instance r05_Round_i (a0:AD) (a1:Int) (a2:Bool):PC (r05_Round a0 a1 a2) Tryz.prog 245 [(.agg (kD.enc a0)),(.int .i64 a1),(.bool a2)] (fun r=>(.tup [(.agg (kD.enc (⟨((r.1).M),(r.1).E⟩:AD))),(.int .i64 r.2)])):=pc func245 (by kernel_rfl) rfl fun E=>by
 unfold r05_Round
 refine .g 10 rfl<|.p0 rfl rfl fun x7 _=>.g 5 rfl<|?_
 refine .cut (fun x:Bool=>(r05_Round_j1 a0 a1 a2 x,[eI 1 a1,eB 2 a2,eP 3 0,eP 6 1,eB 17 x],[(0,(.live 26 [(.bool a0.M.Neg),(slK (kInt .u32) a0.M.Mag),(.int .i64 a0.E)])),(1,(.live 26 [(.bool false),(slK (kInt .u32) []),(.int .i64 0)]))])) ?_ ?_
 ·rintro y9
  dsimp only [r05_Round_j1]
  refine .g 1 rfl<|?_
  refine .cd rfl (fun _ _=>?_) fun _ _=>?_
  ·refine .g 9 rfl<|.fi rfl rfl
  ·refine .g 18 rfl<|.p0 rfl rfl fun x10 _=>.p0 rfl rfl fun x11 _=>.g 7 rfl<|.fi rfl rfl
 ·intro h8
  refine .g 4 rfl<|?_
  refine .gd 13 rfl (fun _=>?_) fun _=>?_
  ·refine .g 5 rfl<|.jw (h8 true) [(0,0),(1,1)] rfl
  ·refine .g 1 rfl<|.p0 rfl rfl fun x12 _=>.g 3 rfl<|.jw (h8 (!x12)) [(0,0),(1,1)] rfl
instance r06_Cround_i (a0:AD) (a1:Bool) (a2:Int) (a3:Int):CC (r06_Cround a0 a1 a2 a3) Tryz.prog 186 [(.ptr 0 0),(.agg (kD.enc a0)),(.bool a1)] [(.live 162 [(.int .i64 a2),(.int .i64 a3)])] (fun r=>(.agg (kD.enc (⟨((r.1).M),(r.1).E⟩:AD)))) (fun r=>[(.live 162 [(.int .i64 a2),(.int .i64 r.2)])]):=cc func186 (by kernel_rfl) rfl fun E=>by
 unfold r06_Cround
 refine .g 16 rfl<|?_
 refine .cd rfl (fun _ _=>?_) fun _ _=>?_
 ·refine .g 8 rfl<|.fi rfl rfl
 ·refine .g 10 rfl<|.p0 rfl rfl fun x3 _=>.g 6 rfl<|.dn (by kernel_rfl)<|.g 5 rfl<|.bind fun x4 h4=>.st rfl (cl (CC.h h4) [0] [] [true] rfl (.p rfl<|.i<|.nil) (.p rfl (.i<|.i<|.nil) .nil) fnil (.cons (.v (.i<|.i<|.nil)) .nil) (.bool _) (.turned .nil) rfl) rfl<|.g 9 rfl<|.fi rfl rfl
instance r06_CMul_i (a0:AI) (a1:AI) (a2:Int) (a3:Int):CC (r06_CMul a0 a1 a2 a3) Tryz.prog 113 [(.ptr 0 0),(.agg (kI.enc a0)),(.agg (kI.enc a1))] [(.live 162 [(.int .i64 a2),(.int .i64 a3)])] (fun r=>(.agg (kI.enc (⟨⟨(((r.1).Lo).M),((r.1).Lo).E⟩,⟨(((r.1).Hi).M),((r.1).Hi).E⟩⟩:AI)))) (fun r=>[(.live 162 [(.int .i64 a2),(.int .i64 r.2)])]):=cc func113 (by kernel_rfl) rfl fun E=>by
 unfold r06_CMul
 refine .g 13 rfl<|.st rfl (bs kI [a0,a1] rfl rfl) rfl<|.bind fun x45 h1=>.st rfl (cl (CC.h h1) [0] [] [true] rfl (.p rfl<|.l<|.nil) (.p rfl (.i<|.i<|.nil) .nil) fnil (.cons (.v (.i<|.i<|.nil)) .nil) (.bool _) (.turned .nil) rfl) rfl<|.g 3 rfl<|?_
 refine .cd rfl (fun _ _=>?_) fun _ _=>?_
 ·refine .g 8 rfl<|.fi rfl rfl
 ·refine .g 12 rfl<|.st rfl (bs kD [a0.Lo,a0.Lo,a0.Hi,a0.Hi] rfl rfl) rfl<|.g 13 rfl<|.st rfl (bs kD [a1.Lo,a1.Hi,a1.Lo,a1.Hi] rfl rfl) rfl<|.g 14 rfl<|?_
  refine .cut (fun x:Int × (List AD)=>(r06_CMul_j1 a2 x.1 x.2,[eP 0 0,eP 6 3,(9,some (grA kD 4 x.2))],[(0,(.live 162 [(.int .i64 a2),(.int .i64 x.1)])),(3,(.live 37 [(.bool false),(slK (kInt .u32) []),(.int .i64 0),(.bool false),(slK (kInt .u32) []),(.int .i64 0)])),(4,(grV kD 26 x.2))])) ?_ ?_
  ·rintro ⟨y64,y65⟩
   dsimp only [r06_CMul_j1]
   refine .g 2 rfl<|?_
   refine .weak ?_ (fun a w h=>Conc.gr_still kD h 9 4 26 y65 rfl rfl)
   refine .g 3 rfl<|.p0 rfl rfl fun x66 _=>.bind fun x67 h51=>.st rfl (cl (CC.h h51) [0] [] [true] rfl (.p rfl<|.a kD<|.b<|.nil) (.p rfl (.i<|.i<|.nil) .nil) fnil (.cons (.v (.i<|.i<|.nil)) .nil) (ren_agg (K:=kD) _) (.turned .nil) rfl) rfl<|.g 8 rfl<|.p0 rfl rfl fun x68 _=>.bind fun x69 h53=>.st rfl (cl (CC.h h53) [0] [] [true] rfl (.p rfl<|.a kD<|.b<|.nil) (.p rfl (.i<|.i<|.nil) .nil) fnil (.cons (.v (.i<|.i<|.nil)) .nil) (ren_agg (K:=kD) _) (.turned .nil) rfl) rfl<|.g 9 rfl<|.bind fun x70 h54=>.st rfl (cl (CC.h h54) [0] [] [false] rfl (.p rfl<|.a kD<|.a kD<|.nil) (.p rfl (.i<|.i<|.nil) .nil) fnil (.cons (.v (.i<|.i<|.nil)) .nil) (ren_agg (K:=kI) _) (.kept rfl .nil) rfl) rfl<|.g 4 rfl<|.fi rfl rfl
  ·intro h55
   refine .g 1 rfl<|?_
   refine .weak ?_ (fun a w h=>Conc.gr_nil kD h 9 4 26 rfl)
   refine .lo (fun n (x:Int × Int × (List AD))=>r06_CMul_l2 a0 a1 a2 n x.1 x.2.1 x.2.2) (fun x=>([eP 0 0,eP 6 3,eK kD 7 [a0.Lo,a0.Lo,a0.Hi,a0.Hi],eK kD 8 [a1.Lo,a1.Hi,a1.Lo,a1.Hi],(9,some (grA kD 4 x.2.2)),eI 10 x.1],[(0,(.live 162 [(.int .i64 a2),(.int .i64 x.2.1)])),(3,(.live 37 [(.bool false),(slK (kInt .u32) []),(.int .i64 0),(.bool false),(slK (kInt .u32) []),(.int .i64 0)])),(4,(grV kD 26 x.2.2))])) (0,x45.2,[]) rfl (fun hE=>jn (m:=1) [(0,0),(3,3),(4,4)] hE (.p rfl rfl<|.p rfl rfl<|.l rfl<|.l rfl<|.g rfl (ren_gr (K:=kD) (by rfl) [])<|.i rfl<|.nil) (.v rfl (.i<|.i<|.nil)<|.v rfl (.b<|.l<|.i<|.b<|.l<|.i<|.nil)<|.cons (.refl _) (renV_gr (K:=kD) 26 [])<|.nil) rfl) ?_
   rintro n2 ⟨y82,y83,y84⟩
   try dsimp only
   rw [r06_CMul_l2]
   refine .g 7 rfl<|?_
   refine .cd rfl (fun _ _=>?_) fun _ _=>?_
   ·refine .g 8 rfl<|.ix rfl rfl<|.g 3 rfl<|.ix rfl rfl<|.g 1 rfl<|.p0 rfl rfl fun x87 _=>.g 6 rfl<|.dn (by kernel_rfl)<|.g 6 rfl<|.bind fun x88 h98=>.st rfl (cl (CC.h h98) [0] [] [true] rfl (.p rfl<|.i<|.nil) (.p rfl (.i<|.i<|.nil) .nil) fnil (.cons (.v (.i<|.i<|.nil)) .nil) (.bool _) (.turned .nil) rfl) rfl<|.g 3 rfl<|?_
    refine .cd rfl (fun _ _=>?_) fun _ _=>?_
    ·refine .g 13 rfl<|.fi rfl rfl
    ·refine .g 5 rfl<|.st rfl (bs kD [(⟨((x87.1).M),(x87.1).E⟩:AD)] rfl rfl) rfl<|.guard fun h101=>.sv (.row 2 kD.sz 0 (((y84++[(⟨((x87.1).M),(x87.1).E⟩:AD)])).length)) [(2,(rwK kD 26 (y84++[(⟨((x87.1).M),(x87.1).E⟩:AD)]))),(4,.dead)] rfl (snd_appendK_gr kD _ _ _ _ _ 4 2 y84 [(⟨((x87.1).M),(x87.1).E⟩:AD)] rfl underlying97 ze26 sb26 rfl rfl rfl rfl rfl rfl rfl h101) rfl<|.g 9 rfl<|?_
     refine .weak ?_ (fun a w h=>Conc.gr_row kD h 9 2 26 (y84++[(⟨((x87.1).M),(x87.1).E⟩:AD)]) rfl rfl (by first | omega | (simp only [List.length_append,List.length_cons,List.length_set]; omega) | simp))
     exact .ao ((IntKind.i64.wrap (y82+1)),x88.2,(y84++[(⟨((x87.1).M),(x87.1).E⟩:AD)])) rfl fun hE=>jn (m:=1) [(0,0),(3,3),(2,4)] hE (.p rfl rfl<|.p rfl rfl<|.l rfl<|.l rfl<|.g rfl (ren_gr (K:=kD) (by rfl) (y84++[(⟨((x87.1).M),(x87.1).E⟩:AD)]))<|.i rfl<|.nil) (.v rfl (.i<|.i<|.nil)<|.v rfl (.b<|.l<|.i<|.b<|.l<|.i<|.nil)<|.cons (.refl _) (renV_gr (K:=kD) 26 (y84++[(⟨((x87.1).M),(x87.1).E⟩:AD)]))<|.nil) rfl
   ·refine .g 4 rfl<|.jo (h55 (y83,y84)) rfl fun hE=>jn (m:=1) [(0,0),(3,3),(4,4)] hE (.p rfl rfl<|.p rfl rfl<|.g rfl (ren_gr (K:=kD) (by rfl) y84)<|.nil) (.v rfl (.i<|.i<|.nil)<|.v rfl (.b<|.l<|.i<|.b<|.l<|.i<|.nil)<|.cons (.refl _) (renV_gr (K:=kD) 26 y84)<|.nil) rfl
instance r04_Add_i (a0:ApiInt) (a1:ApiInt):PC (r04_Add a0 a1) Tryz.prog 272 [(.agg (kN.enc a0)),(.agg (kN.enc a1))] (fun r=>(.agg (kN.enc (r)))):=pc func272 (by kernel_rfl) rfl fun E=>by
 unfold r04_Add
 refine .g 17 rfl<|?_
 refine .cd rfl (fun _ _=>?_) fun _ _=>?_
 ·refine .g 8 rfl<|.p0 rfl rfl fun x7 _=>.p0 rfl rfl fun x8 _=>.g 1 rfl<|.dn (by kernel_rfl)<|.g 3 rfl<|.fi rfl rfl
 ·refine .g 8 rfl<|.p0 rfl rfl fun x9 _=>.g 13 rfl<|?_
  refine .cd rfl (fun _ _=>?_) fun _ _=>?_
  ·refine .g 5 rfl<|.p0 rfl rfl fun x10 _=>.g 5 rfl<|.fi rfl rfl
  ·refine .g 8 rfl<|.p0 rfl rfl fun x11 _=>.g 11 rfl<|.p0 rfl rfl fun x12 _=>.g 4 rfl<|.fi rfl rfl
instance r05_Add_i (a0:AD) (a1:AD):PC (r05_Add a0 a1) Tryz.prog 246 [(.agg (kD.enc a0)),(.agg (kD.enc a1))] (fun r=>(.tup [(.agg (kD.enc (⟨((r.1).M),(r.1).E⟩:AD))),(.int .i64 r.2)])):=pc func246 (by kernel_rfl) rfl fun E=>by
 unfold r05_Add
 refine .g 11 rfl<|.p0 rfl rfl fun x8 _=>.g 6 rfl<|.p0 rfl rfl fun x9 _=>.g 5 rfl<|?_
 refine .cut (fun x:Bool=>(r05_Add_j1 a0 a1 x,[eP 2 0,eP 3 1,eP 4 2,eB 20 x],[(0,(.live 26 [(.bool a0.M.Neg),(slK (kInt .u32) a0.M.Mag),(.int .i64 a0.E)])),(1,(.live 26 [(.bool a1.M.Neg),(slK (kInt .u32) a1.M.Mag),(.int .i64 a1.E)])),(2,(.live 26 [(.bool false),(slK (kInt .u32) []),(.int .i64 0)]))])) ?_ ?_
 ·rintro y10
  dsimp only [r05_Add_j1]
  refine .g 1 rfl<|?_
  refine .cd rfl (fun _ _=>?_) fun _ _=>?_
  ·refine .g 9 rfl<|.fi rfl rfl
  ·refine .g 6 rfl<|.p0 rfl rfl fun x11 _=>.g 15 rfl<|.p0 rfl rfl fun x12 _=>.g 1 rfl<|.p0 rfl rfl fun x13 _=>.p0 rfl rfl fun x14 _=>.g 7 rfl<|.fi rfl rfl
 ·intro h10
  refine .g 4 rfl<|?_
  refine .gd 17 rfl (fun _=>?_) fun _=>?_
  ·refine .g 4 rfl<|.jw (h10 true) [(0,0),(1,1),(2,2)] rfl
  ·refine .g 4 rfl<|.jw (h10 (!x9)) [(0,0),(1,1),(2,2)] rfl
instance r06_Cadd_i (a0:AD) (a1:AD) (a2:Int) (a3:Int):CC (r06_Cadd a0 a1 a2 a3) Tryz.prog 187 [(.ptr 0 0),(.agg (kD.enc a0)),(.agg (kD.enc a1))] [(.live 162 [(.int .i64 a2),(.int .i64 a3)])] (fun r=>(.agg (kD.enc (⟨((r.1).M),(r.1).E⟩:AD)))) (fun r=>[(.live 162 [(.int .i64 a2),(.int .i64 r.2)])]):=cc func187 (by kernel_rfl) rfl fun E=>by
 unfold r06_Cadd
 refine .g 17 rfl<|?_
 refine .cd rfl (fun _ _=>?_) fun _ _=>?_
 ·refine .g 8 rfl<|.fi rfl rfl
 ·refine .g 6 rfl<|.p0 rfl rfl fun x3 _=>.g 12 rfl<|.bind fun x4 h4=>.st rfl (cl (CC.h h4) [0] [] [true] rfl (.p rfl<|.i<|.nil) (.p rfl (.i<|.i<|.nil) .nil) fnil (.cons (.v (.i<|.i<|.nil)) .nil) (.bool _) (.turned .nil) rfl) rfl<|.g 9 rfl<|.fi rfl rfl
instance r06_CAdd_i (a0:AI) (a1:AI) (a2:Int) (a3:Int):CC (r06_CAdd a0 a1 a2 a3) Tryz.prog 111 [(.ptr 0 0),(.agg (kI.enc a0)),(.agg (kI.enc a1))] [(.live 162 [(.int .i64 a2),(.int .i64 a3)])] (fun r=>(.agg (kI.enc (⟨⟨(((r.1).Lo).M),((r.1).Lo).E⟩,⟨(((r.1).Hi).M),((r.1).Hi).E⟩⟩:AI)))) (fun r=>[(.live 162 [(.int .i64 a2),(.int .i64 r.2)])]):=cc func111 (by kernel_rfl) rfl fun E=>by
 unfold r06_CAdd
 refine .g 13 rfl<|.st rfl (bs kI [a0,a1] rfl rfl) rfl<|.bind fun x7 h1=>.st rfl (cl (CC.h h1) [0] [] [true] rfl (.p rfl<|.l<|.nil) (.p rfl (.i<|.i<|.nil) .nil) fnil (.cons (.v (.i<|.i<|.nil)) .nil) (.bool _) (.turned .nil) rfl) rfl<|.g 3 rfl<|?_
 refine .cd rfl (fun _ _=>?_) fun _ _=>?_
 ·refine .g 8 rfl<|.fi rfl rfl
 ·refine .g 10 rfl<|.bind fun x8 h4=>.st rfl (cl (CC.h h4) [0] [] [true] rfl (.p rfl<|.a kD<|.a kD<|.nil) (.p rfl (.i<|.i<|.nil) .nil) fnil (.cons (.v (.i<|.i<|.nil)) .nil) (ren_agg (K:=kD) _) (.turned .nil) rfl) rfl<|.bind fun x9 h5=>.st rfl (cl (CC.h h5) [0] [] [true] rfl (.p rfl<|.a kD<|.b<|.nil) (.p rfl (.i<|.i<|.nil) .nil) fnil (.cons (.v (.i<|.i<|.nil)) .nil) (ren_agg (K:=kD) _) (.turned .nil) rfl) rfl<|.g 12 rfl<|.bind fun x10 h6=>.st rfl (cl (CC.h h6) [0] [] [true] rfl (.p rfl<|.a kD<|.a kD<|.nil) (.p rfl (.i<|.i<|.nil) .nil) fnil (.cons (.v (.i<|.i<|.nil)) .nil) (ren_agg (K:=kD) _) (.turned .nil) rfl) rfl<|.bind fun x11 h7=>.st rfl (cl (CC.h h7) [0] [] [true] rfl (.p rfl<|.a kD<|.b<|.nil) (.p rfl (.i<|.i<|.nil) .nil) fnil (.cons (.v (.i<|.i<|.nil)) .nil) (ren_agg (K:=kD) _) (.turned .nil) rfl) rfl<|.g 9 rfl<|.bind fun x12 h8=>.st rfl (cl (CC.h h8) [0] [] [false] rfl (.p rfl<|.a kD<|.a kD<|.nil) (.p rfl (.i<|.i<|.nil) .nil) fnil (.cons (.v (.i<|.i<|.nil)) .nil) (ren_agg (K:=kI) _) (.kept rfl .nil) rfl) rfl<|.g 4 rfl<|.fi rfl rfl
instance r03_Sqrt_i (a0:List Int):PC (r03_Sqrt a0) Tryz.prog 247 [(slK (kInt .u32) a0)] (fun r=>(.tup [(slK (kInt .u32) r.1),(slK (kInt .u32) r.2)])):=pc func247 (by kernel_rfl) rfl fun E=>by
 unfold r03_Sqrt
 refine .g 2 rfl<|.st rfl (as0 rfl) rfl<|.st rfl (as0 rfl) rfl<|.g 4 rfl<|.st rfl (as0 rfl) rfl<|.g 5 rfl<|.p0 rfl rfl fun x125 _=>.g 7 rfl<|.p0 rfl rfl fun x126 _=>.g 5 rfl<|?_
 refine .cut (fun x:(List Int) × (List Int)=>(r03_Sqrt_j1 x.1 x.2,[eL 4 x.1,eL 5 x.2],[])) ?_ ?_
 ·rintro ⟨y187,y188⟩
  dsimp only [r03_Sqrt_j1]
  refine .g 10 rfl<|.fi rfl rfl
 ·intro h75
  refine .g 1 rfl<|?_
  refine .lp (fun n (x:(List Int) × (List Int) × Int)=>r03_Sqrt_l2 n x.1 x.2.1 x.2.2) (fun x=>([eL 4 x.1,eL 5 x.2.1,eI 6 x.2.2],[])) ([],x125,(IntKind.i64.wrap ((IntKind.i64.wrap (x126-1)).tdiv 2))) [] rfl ?_
  rintro n2 ⟨y228,y229,y230⟩
  try dsimp only
  rw [r03_Sqrt_l2]
  refine .g 7 rfl<|?_
  refine .cd rfl (fun _ _=>?_) fun _ _=>?_
  ·refine .g 7 rfl<|.p0 rfl rfl fun x240 _=>.g 9 rfl<|.st rfl (bs (kInt .u32) [1] rfl rfl) rfl<|.g 1 rfl<|.p0 rfl rfl fun x241 _=>.g 11 rfl<|.p0 rfl rfl fun x242 _=>.g 1 rfl<|.p0 rfl rfl fun x243 _=>.g 11 rfl<|.p0 rfl rfl fun x244 _=>.g 12 rfl<|?_
   refine .cut (fun x:(List Int) × (List Int)=>(r03_Sqrt_j3 (fun z0 z1 z2=>r03_Sqrt_l2 n2 z0 z1 z2) y230 x.1 x.2,[eL 4 x.1,eL 5 x.2,eI 6 y230],[])) ?_ ?_
   ·rintro ⟨y246,y247⟩
    dsimp only [r03_Sqrt_j3]
    refine .g 7 rfl<|.ag (y246,y247,(IntKind.i64.wrap (y230-1))) [] rfl
   ·intro h145
    refine .cd rfl (fun _ _=>?_) fun _ _=>?_
    ·refine .g 9 rfl<|.p0 rfl rfl fun x248 _=>.g 2 rfl<|.jw (h145 (x248,x244.1)) [] rfl
    ·refine .g 1 rfl<|.jw (h145 (y228,y229)) [] rfl
  ·refine .g 4 rfl<|.jw (h75 (y228,y229)) [] rfl
instance r05_Sqrt_i (a0:AD) (a1:Int) (a2:Bool):PC (r05_Sqrt a0 a1 a2) Tryz.prog 188 [(.agg (kD.enc a0)),(.int .i64 a1),(.bool a2)] (fun r=>(.tup [(.agg (kD.enc (⟨((r.1).M),(r.1).E⟩:AD))),(.int .i64 r.2)])):=pc func188 (by kernel_rfl) rfl fun E=>by
 unfold r05_Sqrt
 refine .g 10 rfl<|.p0 rfl rfl fun x11 _=>.g 5 rfl<|?_
 refine .cut (fun x:Bool=>(r05_Sqrt_j1 a0 a1 a2 x,[eI 1 a1,eB 2 a2,eP 3 0,eP 6 1,eB 20 x],[(0,(.live 26 [(.bool a0.M.Neg),(slK (kInt .u32) a0.M.Mag),(.int .i64 a0.E)])),(1,(.live 26 [(.bool false),(slK (kInt .u32) []),(.int .i64 0)]))])) ?_ ?_
 ·rintro y13
  dsimp only [r05_Sqrt_j1]
  refine .g 1 rfl<|?_
  refine .cd rfl (fun _ _=>?_) fun _ _=>?_
  ·refine .g 9 rfl<|.fi rfl rfl
  ·refine .g 10 rfl<|?_
   refine .cd rfl (fun _ _=>?_) fun _ _=>?_
   ·refine .g 9 rfl<|.fi rfl rfl
   ·refine .g 8 rfl<|.ln rfl rfl<|.g 3 rfl<|?_
    refine .cd rfl (fun _ _=>?_) fun _ _=>?_
    ·refine .g 9 rfl<|.fi rfl rfl
    ·refine .g 10 rfl<|.p0 rfl rfl fun x14 _=>.g 16 rfl<|?_
     refine .cut (fun x:Int=>(r05_Sqrt_j2 a0 a1 a2 x,[eI 1 a1,eB 2 a2,eP 3 0,eP 6 1,eI 9 x],[(0,(.live 26 [(.bool a0.M.Neg),(slK (kInt .u32) a0.M.Mag),(.int .i64 a0.E)])),(1,(.live 26 [(.bool false),(slK (kInt .u32) []),(.int .i64 0)]))])) ?_ ?_
     ·rintro y15
      dsimp only [r05_Sqrt_j2]
      refine .g 7 rfl<|.p0 rfl rfl fun x16 _=>.p0 rfl rfl fun x17 _=>.g 16 rfl<|.ln rfl rfl<|.g 3 rfl<|.p0 rfl rfl fun x18 _=>.p0 rfl rfl fun x19 _=>.g 7 rfl<|.fi rfl rfl
     ·intro h17
      refine .cd rfl (fun _ _=>?_) fun _ _=>?_
      ·refine .g 5 rfl<|.jw (h17 (IntKind.i64.wrap ((mx 0 (IntKind.i64.wrap ((IntKind.i64.wrap ((IntKind.i64.wrap (2*a1))+4))-x14)))+1))) [(0,0),(1,1)] rfl
      ·refine .g 1 rfl<|.jw (h17 (mx 0 (IntKind.i64.wrap ((IntKind.i64.wrap ((IntKind.i64.wrap (2*a1))+4))-x14)))) [(0,0),(1,1)] rfl
 ·intro h20
  refine .g 4 rfl<|?_
  refine .gd 16 rfl (fun _=>?_) fun _=>?_
  ·refine .g 5 rfl<|.jw (h20 true) [(0,0),(1,1)] rfl
  ·refine .g 1 rfl<|.p0 rfl rfl fun x20 _=>.g 3 rfl<|.jw (h20 (!x20)) [(0,0),(1,1)] rfl
instance r06_CSqrt_i (a0:AI) (a1:Int) (a2:Int):CC (r06_CSqrt a0 a1 a2) Tryz.prog 112 [(.ptr 0 0),(.agg (kI.enc a0))] [(.live 162 [(.int .i64 a1),(.int .i64 a2)])] (fun r=>(.agg (kI.enc (⟨⟨(((r.1).Lo).M),((r.1).Lo).E⟩,⟨(((r.1).Hi).M),((r.1).Hi).E⟩⟩:AI)))) (fun r=>[(.live 162 [(.int .i64 a1),(.int .i64 r.2)])]):=cc func112 (by kernel_rfl) rfl fun E=>by
 unfold r06_CSqrt
 refine .g 11 rfl<|.st rfl (bs kI [a0] rfl rfl) rfl<|.bind fun x7 h1=>.st rfl (cl (CC.h h1) [0] [] [true] rfl (.p rfl<|.l<|.nil) (.p rfl (.i<|.i<|.nil) .nil) fnil (.cons (.v (.i<|.i<|.nil)) .nil) (.bool _) (.turned .nil) rfl) rfl<|.g 3 rfl<|?_
 refine .cd rfl (fun _ _=>?_) fun _ _=>?_
 ·refine .g 8 rfl<|.fi rfl rfl
 ·refine .g 10 rfl<|.p0 rfl rfl fun x8 _=>.g 6 rfl<|.dn (by kernel_rfl)<|.g 6 rfl<|.bind fun x9 h5=>.st rfl (cl (CC.h h5) [0] [] [true] rfl (.p rfl<|.i<|.nil) (.p rfl (.i<|.i<|.nil) .nil) fnil (.cons (.v (.i<|.i<|.nil)) .nil) (.bool _) (.turned .nil) rfl) rfl<|.g 3 rfl<|?_
  refine .cd rfl (fun _ _=>?_) fun _ _=>?_
  ·refine .g 8 rfl<|.fi rfl rfl
  ·refine .g 10 rfl<|.p0 rfl rfl fun x10 _=>.g 6 rfl<|.dn (by kernel_rfl)<|.g 5 rfl<|.bind fun x11 h9=>.st rfl (cl (CC.h h9) [0] [] [true] rfl (.p rfl<|.i<|.nil) (.p rfl (.i<|.i<|.nil) .nil) fnil (.cons (.v (.i<|.i<|.nil)) .nil) (.bool _) (.turned .nil) rfl) rfl<|.g 7 rfl<|.bind fun x12 h10=>.st rfl (cl (CC.h h10) [0] [] [false] rfl (.p rfl<|.a kD<|.a kD<|.nil) (.p rfl (.i<|.i<|.nil) .nil) fnil (.cons (.v (.i<|.i<|.nil)) .nil) (ren_agg (K:=kI) _) (.kept rfl .nil) rfl) rfl<|.g 4 rfl<|.fi rfl rfl
instance r05_Make_i (a0:ApiInt) (a1:Int):PC (r05_Make a0 a1) Tryz.prog 76 [(.agg (kN.enc a0)),(.int .i64 a1)] (fun r=>(.tup [(.agg (kD.enc (⟨((r.1).M),(r.1).E⟩:AD))),(.bool r.2)])):=pc func76 (by kernel_rfl) rfl fun E=>by
 unfold r05_Make
 refine .g 9 rfl<|?_
 refine .cut (fun x:Bool=>(r05_Make_j1 a0 a1 x,[eI 1 a1,eP 2 0,eP 4 1,eB 13 x],[(0,(.live 24 [(.bool a0.Neg),(slK (kInt .u32) a0.Mag)])),(1,(.live 26 [(.bool false),(slK (kInt .u32) []),(.int .i64 0)]))])) ?_ ?_
 ·rintro y4
  dsimp only [r05_Make_j1]
  refine .g 1 rfl<|?_
  refine .cd rfl (fun _ _=>?_) fun _ _=>?_
  ·refine .g 9 rfl<|.fi rfl rfl
  ·refine .g 6 rfl<|.p0 rfl rfl fun x5 _=>.g 7 rfl<|.p0 rfl rfl fun x6 _=>.g 10 rfl<|?_
   refine .cd rfl (fun _ _=>?_) fun _ _=>?_
   ·refine .g 9 rfl<|.fi rfl rfl
   ·refine .g 10 rfl<|.fi rfl rfl
 ·intro h8
  refine .g 4 rfl<|?_
  refine .gd 10 rfl (fun _=>?_) fun _=>?_
  ·refine .g 4 rfl<|.jw (h8 true) [(0,0),(1,1)] rfl
  ·refine .g 4 rfl<|.jw (h8 (decide (a1>100000))) [(0,0),(1,1)] rfl
instance r05_Half_i (a0:Int):PC (r05_Half a0) Tryz.prog 212 [(.int .i64 a0)] (fun r=>(.agg (kD.enc (⟨((r).M),(r).E⟩:AD)))):=pc func212 (by kernel_rfl) rfl fun E=>by
 unfold r05_Half
 refine .g 7 rfl<|.p0 rfl rfl fun x3 _=>.g 1 rfl<|.p0 rfl rfl fun x4 _=>.g 15 rfl<|.fi rfl rfl
instance r06_In_i (a0:AI) (a1:AI):PC (r06_In a0 a1) Tryz.prog 248 [(.agg (kI.enc a0)),(.agg (kI.enc a1))] (fun r=>(.bool r)):=pc func248 (by kernel_rfl) rfl fun E=>by
 unfold r06_In
 refine .g 10 rfl<|.p0 rfl rfl fun x7 _=>.g 4 rfl<|?_
 refine .cut (fun x:Bool=>(r06_In_j1 x,[eB 4 x],[])) ?_ ?_
 ·rintro y10
  dsimp only [r06_In_j1]
  refine .g 2 rfl<|.fi rfl rfl
 ·intro h6
  refine .g 3 rfl<|?_
  refine .gd 9 rfl (fun _=>?_) fun _=>?_
  ·refine .g 3 rfl<|.p0 rfl rfl fun x11 _=>.g 2 rfl<|?_
   refine .gd 15 rfl (fun _=>?_) fun _=>?_
   ·refine .g 3 rfl<|.p0 rfl rfl fun x12 _=>.g 3 rfl<|.jw (h6 x12) [] rfl
   ·refine .g 7 rfl<|.jw (h6 false) [] rfl
  ·refine .g 13 rfl<|.jw (h6 false) [] rfl
instance r07_fits_i (a0:AI) (a1:Int) (a2:Int) (a3:Int):CC (r07_fits a0 a1 a2 a3) Tryz.prog 190 [(.ptr 0 0),(.agg (kI.enc a0)),(.int .i64 a1)] [(.live 162 [(.int .i64 a2),(.int .i64 a3)])] (fun r=>(.bool r.1)) (fun r=>[(.live 162 [(.int .i64 a2),(.int .i64 r.2)])]):=cc func190 (by kernel_rfl) rfl fun E=>by
 unfold r07_fits
 refine .g 16 rfl<|?_
 refine .cd rfl (fun _ _=>?_) fun _ _=>?_
 ·refine .g 7 rfl<|.fi rfl rfl
 ·refine .g 5 rfl<|.p0 rfl rfl fun x5 _=>.g 10 rfl<|?_
  refine .cd rfl (fun _ _=>?_) fun _ _=>?_
  ·refine .g 15 rfl<|.fi rfl rfl
  ·refine .g 5 rfl<|.p0 rfl rfl fun x6 _=>.g 9 rfl<|.p0 rfl rfl fun x7 _=>.g 2 rfl<|.p0 rfl rfl fun x8 _=>.g 1 rfl<|.dn (by kernel_rfl)<|.g 1 rfl<|?_
   refine .cd rfl (fun _ _=>?_) fun _ _=>?_
   ·refine .g 15 rfl<|.fi rfl rfl
   ·refine .g 8 rfl<|.fi rfl rfl
instance r07_Terms_i (a0:Int):PC (r07_Terms a0) Tryz.prog 191 [(.int .i64 a0)] (fun r=>(.int .i64 r)):=pc func191 (by kernel_rfl) rfl fun E=>by
 unfold r07_Terms
 refine .g 16 rfl<|.fi rfl rfl
instance r06_CNeg_i (a0:AI) (a1:Int) (a2:Int):CC (r06_CNeg a0 a1 a2) Tryz.prog 118 [(.ptr 0 0),(.agg (kI.enc a0))] [(.live 162 [(.int .i64 a1),(.int .i64 a2)])] (fun r=>(.agg (kI.enc (⟨⟨(((r.1).Lo).M),((r.1).Lo).E⟩,⟨(((r.1).Hi).M),((r.1).Hi).E⟩⟩:AI)))) (fun r=>[(.live 162 [(.int .i64 a1),(.int .i64 r.2)])]):=cc func118 (by kernel_rfl) rfl fun E=>by
 unfold r06_CNeg
 refine .g 11 rfl<|.st rfl (bs kI [a0] rfl rfl) rfl<|.bind fun x4 h1=>.st rfl (cl (CC.h h1) [0] [] [true] rfl (.p rfl<|.l<|.nil) (.p rfl (.i<|.i<|.nil) .nil) fnil (.cons (.v (.i<|.i<|.nil)) .nil) (.bool _) (.turned .nil) rfl) rfl<|.g 3 rfl<|?_
 refine .cd rfl (fun _ _=>?_) fun _ _=>?_
 ·refine .g 8 rfl<|.fi rfl rfl
 ·refine .g 6 rfl<|.p0 rfl rfl fun x5 _=>.g 2 rfl<|.p0 rfl rfl fun x6 _=>.g 2 rfl<|.dn (by kernel_rfl)<|.g 2 rfl<|.fi rfl rfl
instance r06_CWide_i (a0:AI) (a1:AD) (a2:Int) (a3:Int):CC (r06_CWide a0 a1 a2 a3) Tryz.prog 208 [(.ptr 0 0),(.agg (kI.enc a0)),(.agg (kD.enc a1))] [(.live 162 [(.int .i64 a2),(.int .i64 a3)])] (fun r=>(.agg (kI.enc (⟨⟨(((r.1).Lo).M),((r.1).Lo).E⟩,⟨(((r.1).Hi).M),((r.1).Hi).E⟩⟩:AI)))) (fun r=>[(.live 162 [(.int .i64 a2),(.int .i64 r.2)])]):=cc func208 (by kernel_rfl) rfl fun E=>by
 unfold r06_CWide
 refine .g 15 rfl<|.st rfl (bs kI [a0,(⟨⟨⟨false,[]⟩,0⟩,a1⟩:AI)] rfl rfl) rfl<|.bind fun x8 h1=>.st rfl (cl (CC.h h1) [0] [] [true] rfl (.p rfl<|.l<|.nil) (.p rfl (.i<|.i<|.nil) .nil) fnil (.cons (.v (.i<|.i<|.nil)) .nil) (.bool _) (.turned .nil) rfl) rfl<|.g 3 rfl<|?_
 refine .cd rfl (fun _ _=>?_) fun _ _=>?_
 ·refine .g 8 rfl<|.fi rfl rfl
 ·refine .g 9 rfl<|.p0 rfl rfl fun x9 _=>.bind fun x10 h5=>.st rfl (cl (CC.h h5) [0] [] [true] rfl (.p rfl<|.a kD<|.a kD<|.nil) (.p rfl (.i<|.i<|.nil) .nil) fnil (.cons (.v (.i<|.i<|.nil)) .nil) (ren_agg (K:=kD) _) (.turned .nil) rfl) rfl<|.bind fun x11 h6=>.st rfl (cl (CC.h h6) [0] [] [true] rfl (.p rfl<|.a kD<|.b<|.nil) (.p rfl (.i<|.i<|.nil) .nil) fnil (.cons (.v (.i<|.i<|.nil)) .nil) (ren_agg (K:=kD) _) (.turned .nil) rfl) rfl<|.g 2 rfl<|.dn (by kernel_rfl)<|.g 8 rfl<|.bind fun x12 h7=>.st rfl (cl (CC.h h7) [0] [] [true] rfl (.p rfl<|.a kD<|.a kD<|.nil) (.p rfl (.i<|.i<|.nil) .nil) fnil (.cons (.v (.i<|.i<|.nil)) .nil) (ren_agg (K:=kD) _) (.turned .nil) rfl) rfl<|.bind fun x13 h8=>.st rfl (cl (CC.h h8) [0] [] [true] rfl (.p rfl<|.a kD<|.b<|.nil) (.p rfl (.i<|.i<|.nil) .nil) fnil (.cons (.v (.i<|.i<|.nil)) .nil) (ren_agg (K:=kD) _) (.turned .nil) rfl) rfl<|.g 9 rfl<|?_
  refine .bind fun x14 h9=>.st rfl (cl (CC.h h9) [0] [] [false] rfl (.p rfl<|.a kD<|.a kD<|.nil) (.p rfl (.i<|.i<|.nil) .nil) fnil (.cons (.v (.i<|.i<|.nil)) .nil) (ren_agg (K:=kI) _) (.kept rfl .nil) rfl) rfl<|.g 4 rfl<|.fi rfl rfl
instance r07_ends_i (a0:AI) (a1:Int) (a2:Int):CC (r07_ends a0 a1 a2) Tryz.prog 192 [(.ptr 0 0),(.agg (kI.enc a0))] [(.live 162 [(.int .i64 a1),(.int .i64 a2)])] (fun r=>(.agg (kI.enc (⟨⟨(((r.1).Lo).M),((r.1).Lo).E⟩,⟨(((r.1).Hi).M),((r.1).Hi).E⟩⟩:AI)))) (fun r=>[(.live 162 [(.int .i64 a1),(.int .i64 r.2)])]):=cc func192 (by kernel_rfl) rfl fun E=>by
 unfold r07_ends
 refine .g 15 rfl<|.p0 rfl rfl fun x3 _=>.bind fun x4 h2=>.st rfl (cl (CC.h h2) [0] [] [true] rfl (.p rfl<|.a kI<|.a kD<|.nil) (.p rfl (.i<|.i<|.nil) .nil) fnil (.cons (.v (.i<|.i<|.nil)) .nil) (ren_agg (K:=kI) _) (.turned .nil) rfl) rfl<|.g 1 rfl<|.dn (by kernel_rfl)<|.g 2 rfl<|.fi rfl rfl
instance r07_Atan_i (a0:AI) (a1:Int) (a2:Int):CC (r07_Atan a0 a1 a2) Tryz.prog 115 [(.ptr 0 0),(.agg (kI.enc a0))] [(.live 162 [(.int .i64 a1),(.int .i64 a2)])] (fun r=>(.agg (kI.enc (⟨⟨(((r.1).Lo).M),((r.1).Lo).E⟩,⟨(((r.1).Hi).M),((r.1).Hi).E⟩⟩:AI)))) (fun r=>[(.live 162 [(.int .i64 a1),(.int .i64 r.2)])]):=cc func115 (by kernel_rfl) rfl fun E=>by
 unfold r07_Atan
 refine .g 11 rfl<|.bind fun x133 h1=>.st rfl (cl (CC.h h1) [0] [] [true] rfl (.p rfl<|.a kI<|.i<|.nil) (.p rfl (.i<|.i<|.nil) .nil) fnil (.cons (.v (.i<|.i<|.nil)) .nil) (.bool _) (.turned .nil) rfl) rfl<|.g 3 rfl<|?_
 refine .cd rfl (fun _ _=>?_) fun _ _=>?_
 ·refine .g 8 rfl<|.fi rfl rfl
 ·refine .g 7 rfl<|.bind fun x134 h4=>.st rfl (cl (CC.h h4) [0] [] [true] rfl (.p rfl<|.a kI<|.a kI<|.nil) (.p rfl (.i<|.i<|.nil) .nil) fnil (.cons (.v (.i<|.i<|.nil)) .nil) (ren_agg (K:=kI) _) (.turned .nil) rfl) rfl<|.g 24 rfl<|?_
  refine .cut (fun x:Int × Bool × (List Int) × Int × Bool × (List Int) × Int=>(r07_Atan_j1 a1 x.1 x.2.1 x.2.2.1 x.2.2.2.1 x.2.2.2.2.1 x.2.2.2.2.2.1 x.2.2.2.2.2.2,[eP 0 0,eP 4 2,eP 6 4],[(0,(.live 162 [(.int .i64 a1),(.int .i64 x.1)])),(2,(.live 37 [(.bool false),(slK (kInt .u32) []),(.int .i64 0),(.bool false),(slK (kInt .u32) []),(.int .i64 0)])),(4,(.live 37 [(.bool x.2.1),(slK (kInt .u32) x.2.2.1),(.int .i64 x.2.2.2.1),(.bool x.2.2.2.2.1),(slK (kInt .u32) x.2.2.2.2.2.1),(.int .i64 x.2.2.2.2.2.2)]))])) ?_ ?_
  ·rintro ⟨y196,y197,y198,y199,y200,y201,y202⟩
   dsimp only [r07_Atan_j1]
   refine .g 5 rfl<|.bind fun x203 h44=>.st rfl (cl (CC.h h44) [0] [] [true] rfl (.p rfl<|.a kI<|.nil) (.p rfl (.i<|.i<|.nil) .nil) fnil (.cons (.v (.i<|.i<|.nil)) .nil) (ren_agg (K:=kI) _) (.turned .nil) rfl) rfl<|.g 4 rfl<|.fi rfl rfl
  ·intro h45
   refine .g 1 rfl<|?_
   refine .lp (fun n (x:Int × Int × Bool × (List Int) × Int × Bool × (List Int) × Int × Bool × (List Int) × Int × Bool × (List Int) × Int)=>r07_Atan_l2 a1 x134 n x.1 x.2.1 x.2.2.1 x.2.2.2.1 x.2.2.2.2.1 x.2.2.2.2.2.1 x.2.2.2.2.2.2.1 x.2.2.2.2.2.2.2.1 x.2.2.2.2.2.2.2.2.1 x.2.2.2.2.2.2.2.2.2.1 x.2.2.2.2.2.2.2.2.2.2.1 x.2.2.2.2.2.2.2.2.2.2.2.1 x.2.2.2.2.2.2.2.2.2.2.2.2.1 x.2.2.2.2.2.2.2.2.2.2.2.2.2) (fun x=>([eP 0 0,eP 4 2,eP 5 3,eP 6 4,eP 7 5,eI 8 x.1],[(0,(.live 162 [(.int .i64 a1),(.int .i64 x.2.1)])),(2,(.live 37 [(.bool false),(slK (kInt .u32) []),(.int .i64 0),(.bool false),(slK (kInt .u32) []),(.int .i64 0)])),(3,(.live 37 [(.bool ((((x134.1).Lo).M).Neg)),(slK (kInt .u32) ((((x134.1).Lo).M).Mag)),(.int .i64 (((x134.1).Lo).E)),(.bool ((((x134.1).Hi).M).Neg)),(slK (kInt .u32) ((((x134.1).Hi).M).Mag)),(.int .i64 (((x134.1).Hi).E))])),(4,(.live 37 [(.bool x.2.2.1),(slK (kInt .u32) x.2.2.2.1),(.int .i64 x.2.2.2.2.1),(.bool x.2.2.2.2.2.1),(slK (kInt .u32) x.2.2.2.2.2.2.1),(.int .i64 x.2.2.2.2.2.2.2.1)])),(5,(.live 37 [(.bool x.2.2.2.2.2.2.2.2.1),(slK (kInt .u32) x.2.2.2.2.2.2.2.2.2.1),(.int .i64 x.2.2.2.2.2.2.2.2.2.2.1),(.bool x.2.2.2.2.2.2.2.2.2.2.2.1),(slK (kInt .u32) x.2.2.2.2.2.2.2.2.2.2.2.2.1),(.int .i64 x.2.2.2.2.2.2.2.2.2.2.2.2.2)]))])) (1,x134.2,a0.Lo.M.Neg,a0.Lo.M.Mag,a0.Lo.E,a0.Hi.M.Neg,a0.Hi.M.Mag,a0.Hi.E,a0.Lo.M.Neg,a0.Lo.M.Mag,a0.Lo.E,a0.Hi.M.Neg,a0.Hi.M.Mag,a0.Hi.E) [(0,0),(2,2),(3,3),(4,4),(5,5)] rfl ?_
   rintro n2 ⟨y240,y241,y242,y243,y244,y245,y246,y247,y248,y249,y250,y251,y252,y253⟩
   try dsimp only
   rw [r07_Atan_l2]
   refine .g 8 rfl<|.p0 rfl rfl fun x254 _=>.g 3 rfl<|?_
   refine .cd rfl (fun _ _=>?_) fun _ _=>?_
   ·refine .g 10 rfl<|.bind fun x260 h80=>.st rfl (cl (CC.h h80) [0] [] [true] rfl (.p rfl<|.a kI<|.a kI<|.nil) (.p rfl (.i<|.i<|.nil) .nil) fnil (.cons (.v (.i<|.i<|.nil)) .nil) (ren_agg (K:=kI) _) (.turned .nil) rfl) rfl<|.bind fun x261 h81=>.st rfl (cl (CC.h h81) [0] [] [true] rfl (.p rfl<|.a kI<|.nil) (.p rfl (.i<|.i<|.nil) .nil) fnil (.cons (.v (.i<|.i<|.nil)) .nil) (ren_agg (K:=kI) _) (.turned .nil) rfl) rfl<|.g 12 rfl<|.bind fun x262 h82=>.st rfl (cl (CC.h h82) [0] [] [true] rfl (.p rfl<|.i<|.nil) (.p rfl (.i<|.i<|.nil) .nil) fnil (.cons (.v (.i<|.i<|.nil)) .nil) (ren_agg (K:=kI) _) (.turned .nil) rfl) rfl<|.bind fun x263 h83=>.st rfl (cl (CC.h h83) [0] [] [true] rfl (.p rfl<|.a kI<|.a kI<|.nil) (.p rfl (.i<|.i<|.nil) .nil) fnil (.cons (.v (.i<|.i<|.nil)) .nil) (ren_agg (K:=kI) _) (.turned .nil) rfl) rfl<|.bind fun x264 h84=>.st rfl (cl (CC.h h84) [0] [] [true] rfl (.p rfl<|.a kI<|.a kI<|.nil) (.p rfl (.i<|.i<|.nil) .nil) fnil (.cons (.v (.i<|.i<|.nil)) .nil) (ren_agg (K:=kI) _) (.turned .nil) rfl) rfl<|.g 1 rfl<|.dn (by kernel_rfl)<|?_
    refine .g 7 rfl<|.ag ((IntKind.i64.wrap (y240+1)),x264.2,(((x264.1).Lo).M).Neg,(((x264.1).Lo).M).Mag,((x264.1).Lo).E,(((x264.1).Hi).M).Neg,(((x264.1).Hi).M).Mag,((x264.1).Hi).E,(((x261.1).Lo).M).Neg,(((x261.1).Lo).M).Mag,((x261.1).Lo).E,(((x261.1).Hi).M).Neg,(((x261.1).Hi).M).Mag,((x261.1).Hi).E) [(0,0),(2,2),(3,3),(4,4),(5,5)] rfl
   ·refine .g 4 rfl<|.jw (h45 (y241,y242,y243,y244,y245,y246,y247)) [(0,0),(2,2),(4,4)] rfl
instance r05_Scale_i (a0:AD) (a1:Int):PC (r05_Scale a0 a1) Tryz.prog 189 [(.agg (kD.enc a0)),(.int .i64 a1)] (fun r=>(.tup [(.agg (kD.enc (⟨((r.1).M),(r.1).E⟩:AD))),(.int .i64 r.2)])):=pc func189 (by kernel_rfl) rfl fun E=>by
 unfold r05_Scale
 refine .g 10 rfl<|.p0 rfl rfl fun x4 _=>.g 10 rfl<|?_
 refine .cd rfl (fun _ _=>?_) fun _ _=>?_
 ·refine .g 9 rfl<|.fi rfl rfl
 ·refine .g 4 rfl<|?_
  refine .cut (fun x:Bool=>(r05_Scale_j1 a0 a1 x,[eI 1 a1,eP 2 0,eP 4 1,eB 17 x],[(0,(.live 26 [(.bool a0.M.Neg),(slK (kInt .u32) a0.M.Mag),(.int .i64 a0.E)])),(1,(.live 26 [(.bool false),(slK (kInt .u32) []),(.int .i64 0)]))])) ?_ ?_
  ·rintro y5
   dsimp only [r05_Scale_j1]
   refine .g 1 rfl<|?_
   refine .cd rfl (fun _ _=>?_) fun _ _=>?_
   ·refine .g 9 rfl<|.fi rfl rfl
   ·refine .g 8 rfl<|.ln rfl rfl<|.g 3 rfl<|?_
    refine .cd rfl (fun _ _=>?_) fun _ _=>?_
    ·refine .g 9 rfl<|.fi rfl rfl
    ·refine .g 11 rfl<|.p0 rfl rfl fun x6 _=>.g 7 rfl<|.fi rfl rfl
  ·intro h10
   refine .g 4 rfl<|?_
   refine .gd 14 rfl (fun _=>?_) fun _=>?_
   ·refine .g 4 rfl<|.jw (h10 true) [(0,0),(1,1)] rfl
   ·refine .g 4 rfl<|.jw (h10 (decide (a1>100000))) [(0,0),(1,1)] rfl
instance r06_CScale_i (a0:AI) (a1:Int) (a2:Int) (a3:Int):CC (r06_CScale a0 a1 a2 a3) Tryz.prog 114 [(.ptr 0 0),(.agg (kI.enc a0)),(.int .i64 a1)] [(.live 162 [(.int .i64 a2),(.int .i64 a3)])] (fun r=>(.agg (kI.enc (⟨⟨(((r.1).Lo).M),((r.1).Lo).E⟩,⟨(((r.1).Hi).M),((r.1).Hi).E⟩⟩:AI)))) (fun r=>[(.live 162 [(.int .i64 a2),(.int .i64 r.2)])]):=cc func114 (by kernel_rfl) rfl fun E=>by
 unfold r06_CScale
 refine .g 11 rfl<|.st rfl (bs kI [a0] rfl rfl) rfl<|.bind fun x7 h1=>.st rfl (cl (CC.h h1) [0] [] [true] rfl (.p rfl<|.l<|.nil) (.p rfl (.i<|.i<|.nil) .nil) fnil (.cons (.v (.i<|.i<|.nil)) .nil) (.bool _) (.turned .nil) rfl) rfl<|.g 3 rfl<|?_
 refine .cd rfl (fun _ _=>?_) fun _ _=>?_
 ·refine .g 8 rfl<|.fi rfl rfl
 ·refine .g 7 rfl<|.p0 rfl rfl fun x8 _=>.g 13 rfl<|.bind fun x9 h5=>.st rfl (cl (CC.h h5) [0] [] [true] rfl (.p rfl<|.i<|.nil) (.p rfl (.i<|.i<|.nil) .nil) fnil (.cons (.v (.i<|.i<|.nil)) .nil) (.bool _) (.turned .nil) rfl) rfl<|.g 3 rfl<|?_
  refine .cd rfl (fun _ _=>?_) fun _ _=>?_
  ·refine .g 8 rfl<|.fi rfl rfl
  ·refine .g 7 rfl<|.p0 rfl rfl fun x10 _=>.g 12 rfl<|.bind fun x11 h9=>.st rfl (cl (CC.h h9) [0] [] [true] rfl (.p rfl<|.i<|.nil) (.p rfl (.i<|.i<|.nil) .nil) fnil (.cons (.v (.i<|.i<|.nil)) .nil) (.bool _) (.turned .nil) rfl) rfl<|.g 7 rfl<|.bind fun x12 h10=>.st rfl (cl (CC.h h10) [0] [] [false] rfl (.p rfl<|.a kD<|.a kD<|.nil) (.p rfl (.i<|.i<|.nil) .nil) fnil (.cons (.v (.i<|.i<|.nil)) .nil) (ren_agg (K:=kI) _) (.kept rfl .nil) rfl) rfl<|.g 4 rfl<|.fi rfl rfl
instance r06_CSub_i (a0:AI) (a1:AI) (a2:Int) (a3:Int):CC (r06_CSub a0 a1 a2 a3) Tryz.prog 116 [(.ptr 0 0),(.agg (kI.enc a0)),(.agg (kI.enc a1))] [(.live 162 [(.int .i64 a2),(.int .i64 a3)])] (fun r=>(.agg (kI.enc (⟨⟨(((r.1).Lo).M),((r.1).Lo).E⟩,⟨(((r.1).Hi).M),((r.1).Hi).E⟩⟩:AI)))) (fun r=>[(.live 162 [(.int .i64 a2),(.int .i64 r.2)])]):=cc func116 (by kernel_rfl) rfl fun E=>by
 unfold r06_CSub
 refine .g 13 rfl<|.st rfl (bs kI [a0,a1] rfl rfl) rfl<|.bind fun x4 h1=>.st rfl (cl (CC.h h1) [0] [] [true] rfl (.p rfl<|.l<|.nil) (.p rfl (.i<|.i<|.nil) .nil) fnil (.cons (.v (.i<|.i<|.nil)) .nil) (.bool _) (.turned .nil) rfl) rfl<|.g 3 rfl<|?_
 refine .cd rfl (fun _ _=>?_) fun _ _=>?_
 ·refine .g 8 rfl<|.fi rfl rfl
 ·refine .g 8 rfl<|.bind fun x5 h4=>.st rfl (cl (CC.h h4) [0] [] [true] rfl (.p rfl<|.a kI<|.nil) (.p rfl (.i<|.i<|.nil) .nil) fnil (.cons (.v (.i<|.i<|.nil)) .nil) (ren_agg (K:=kI) _) (.turned .nil) rfl) rfl<|.bind fun x6 h5=>.st rfl (cl (CC.h h5) [0] [] [true] rfl (.p rfl<|.a kI<|.a kI<|.nil) (.p rfl (.i<|.i<|.nil) .nil) fnil (.cons (.v (.i<|.i<|.nil)) .nil) (ren_agg (K:=kI) _) (.turned .nil) rfl) rfl<|.g 1 rfl<|.dn (by kernel_rfl)<|.g 2 rfl<|.fi rfl rfl
instance r08_Pi_i (a0:Int) (a1:Int):CC (r08_Pi a0 a1) Tryz.prog 117 [(.ptr 0 0)] [(.live 162 [(.int .i64 a0),(.int .i64 a1)])] (fun r=>(.agg (kI.enc (⟨⟨(((r.1).Lo).M),((r.1).Lo).E⟩,⟨(((r.1).Hi).M),((r.1).Hi).E⟩⟩:AI)))) (fun r=>[(.live 162 [(.int .i64 a0),(.int .i64 r.2)])]):=cc func117 (by kernel_rfl) rfl fun E=>by
 unfold r08_Pi
 refine .g 10 rfl<|.bind fun x12 h1=>.st rfl (cl (CC.h h1) [0] [] [true] rfl (.p rfl<|.i<|.nil) (.p rfl (.i<|.i<|.nil) .nil) fnil (.cons (.v (.i<|.i<|.nil)) .nil) (ren_agg (K:=kI) _) (.turned .nil) rfl) rfl<|.g 1 rfl<|.bind fun x13 h2=>.st rfl (cl (CC.h h2) [0] [] [true] rfl (.p rfl<|.i<|.nil) (.p rfl (.i<|.i<|.nil) .nil) fnil (.cons (.v (.i<|.i<|.nil)) .nil) (ren_agg (K:=kI) _) (.turned .nil) rfl) rfl<|.bind fun x14 h3=>.st rfl (cl (CC.h h3) [0] [] [true] rfl (.p rfl<|.a kI<|.a kI<|.nil) (.p rfl (.i<|.i<|.nil) .nil) fnil (.cons (.v (.i<|.i<|.nil)) .nil) (ren_agg (K:=kI) _) (.turned .nil) rfl) rfl<|.bind fun x15 h4=>.st rfl (cl (CC.h h4) [0] [] [true] rfl (.p rfl<|.a kI<|.nil) (.p rfl (.i<|.i<|.nil) .nil) fnil (.cons (.v (.i<|.i<|.nil)) .nil) (ren_agg (K:=kI) _) (.turned .nil) rfl) rfl<|.g 9 rfl<|.bind fun x16 h5=>.st rfl (cl (CC.h h5) [0] [] [true] rfl (.p rfl<|.i<|.nil) (.p rfl (.i<|.i<|.nil) .nil) fnil (.cons (.v (.i<|.i<|.nil)) .nil) (ren_agg (K:=kI) _) (.turned .nil) rfl) rfl<|.g 1 rfl<|?_
 refine .bind fun x17 h6=>.st rfl (cl (CC.h h6) [0] [] [true] rfl (.p rfl<|.i<|.nil) (.p rfl (.i<|.i<|.nil) .nil) fnil (.cons (.v (.i<|.i<|.nil)) .nil) (ren_agg (K:=kI) _) (.turned .nil) rfl) rfl<|.bind fun x18 h7=>.st rfl (cl (CC.h h7) [0] [] [true] rfl (.p rfl<|.a kI<|.a kI<|.nil) (.p rfl (.i<|.i<|.nil) .nil) fnil (.cons (.v (.i<|.i<|.nil)) .nil) (ren_agg (K:=kI) _) (.turned .nil) rfl) rfl<|.bind fun x19 h8=>.st rfl (cl (CC.h h8) [0] [] [true] rfl (.p rfl<|.a kI<|.nil) (.p rfl (.i<|.i<|.nil) .nil) fnil (.cons (.v (.i<|.i<|.nil)) .nil) (ren_agg (K:=kI) _) (.turned .nil) rfl) rfl<|.g 9 rfl<|.bind fun x20 h9=>.st rfl (cl (CC.h h9) [0] [] [true] rfl (.p rfl<|.a kI<|.i<|.nil) (.p rfl (.i<|.i<|.nil) .nil) fnil (.cons (.v (.i<|.i<|.nil)) .nil) (ren_agg (K:=kI) _) (.turned .nil) rfl) rfl<|.g 2 rfl<|.bind fun x21 h10=>.st rfl (cl (CC.h h10) [0] [] [true] rfl (.p rfl<|.a kI<|.i<|.nil) (.p rfl (.i<|.i<|.nil) .nil) fnil (.cons (.v (.i<|.i<|.nil)) .nil) (ren_agg (K:=kI) _) (.turned .nil) rfl) rfl<|.bind fun x22 h11=>.st rfl (cl (CC.h h11) [0] [] [true] rfl (.p rfl<|.a kI<|.a kI<|.nil) (.p rfl (.i<|.i<|.nil) .nil) fnil (.cons (.v (.i<|.i<|.nil)) .nil) (ren_agg (K:=kI) _) (.turned .nil) rfl) rfl<|?_
 refine .g 1 rfl<|.dn (by kernel_rfl)<|.g 2 rfl<|.fi rfl rfl
instance r06_COut_i (a0:AI) (a1:Int) (a2:Int):CC (r06_COut a0 a1 a2) Tryz.prog 193 [(.ptr 0 0),(.agg (kI.enc a0))] [(.live 162 [(.int .i64 a1),(.int .i64 a2)])] (fun r=>(.agg (kI.enc (⟨⟨(((r.1).Lo).M),((r.1).Lo).E⟩,⟨(((r.1).Hi).M),((r.1).Hi).E⟩⟩:AI)))) (fun r=>[(.live 162 [(.int .i64 a1),(.int .i64 r.2)])]):=cc func193 (by kernel_rfl) rfl fun E=>by
 unfold r06_COut
 refine .g 11 rfl<|.st rfl (bs kI [a0] rfl rfl) rfl<|.bind fun x5 h1=>.st rfl (cl (CC.h h1) [0] [] [true] rfl (.p rfl<|.l<|.nil) (.p rfl (.i<|.i<|.nil) .nil) fnil (.cons (.v (.i<|.i<|.nil)) .nil) (.bool _) (.turned .nil) rfl) rfl<|.g 3 rfl<|?_
 refine .cd rfl (fun _ _=>?_) fun _ _=>?_
 ·refine .g 8 rfl<|.fi rfl rfl
 ·refine .g 7 rfl<|.bind fun x6 h4=>.st rfl (cl (CC.h h4) [0] [] [true] rfl (.p rfl<|.a kD<|.b<|.nil) (.p rfl (.i<|.i<|.nil) .nil) fnil (.cons (.v (.i<|.i<|.nil)) .nil) (ren_agg (K:=kD) _) (.turned .nil) rfl) rfl<|.g 9 rfl<|.bind fun x7 h5=>.st rfl (cl (CC.h h5) [0] [] [true] rfl (.p rfl<|.a kD<|.b<|.nil) (.p rfl (.i<|.i<|.nil) .nil) fnil (.cons (.v (.i<|.i<|.nil)) .nil) (ren_agg (K:=kD) _) (.turned .nil) rfl) rfl<|.g 9 rfl<|.bind fun x8 h6=>.st rfl (cl (CC.h h6) [0] [] [false] rfl (.p rfl<|.a kD<|.a kD<|.nil) (.p rfl (.i<|.i<|.nil) .nil) fnil (.cons (.v (.i<|.i<|.nil)) .nil) (ren_agg (K:=kI) _) (.kept rfl .nil) rfl) rfl<|.g 4 rfl<|.fi rfl rfl
instance r09_Ends_i (a0:AI) (a1:Int) (a2:Int) (a3:Int):CC (r09_Ends a0 a1 a2 a3) Tryz.prog 119 [(.ptr 0 0),(.agg (kI.enc a0)),(.int .i64 a1)] [(.live 162 [(.int .i64 a2),(.int .i64 a3)])] (fun r=>(.tup [(.agg (kI.enc (⟨⟨(((r.1).Lo).M),((r.1).Lo).E⟩,⟨(((r.1).Hi).M),((r.1).Hi).E⟩⟩:AI))),(.int .i64 r.2)])) (fun r=>[(.live 162 [(.int .i64 a2),(.int .i64 a3)])]):=cc func119 (by kernel_rfl) rfl fun E=>by
 unfold r09_Ends
 refine .g 17 rfl<|?_
 refine .cd rfl (fun _ _=>?_) fun _ _=>?_
 ·refine .g 9 rfl<|.dn (by kernel_rfl)<|.g 3 rfl<|.fi rfl rfl
 ·refine .g 5 rfl<|.bind fun x5 h3=>?_
  rcases x5 with x6 | x7
  ·dsimp only
   refine .st rfl (cl (r06_New_k_0 h3) [] [3] [true] rfl (.i<|.nil) .nil (fresh_cons rfl fnil) (.cons .dead .nil) .nilptr (.turned .nil) rfl) rfl<|.g 7 rfl<|.no
  ·dsimp only
   refine .st rfl (cl (r06_New_k_1 h3) [] [3] [true] rfl (.i<|.nil) .nil (fresh_cons rfl fnil) (.cons (.v (.i<|.i<|.nil)) .nil) (.ptr _ _ _ rfl) (.turned .nil) rfl) rfl<|.g 7 rfl<|.bind fun x8 h4=>.st rfl (cl (CC.h h4) [3] [] [true] rfl (.p rfl<|.a kI<|.nil) (.p rfl (.i<|.i<|.nil) .nil) fnil (.cons (.v (.i<|.i<|.nil)) .nil) (ren_agg (K:=kI) _) (.turned .nil) rfl) rfl<|.g 13 rfl<|.dn (by kernel_rfl)<|.g 2 rfl<|.fi rfl rfl
end Go.Proofs.YtjfcghliglfapabGreat.Gen
