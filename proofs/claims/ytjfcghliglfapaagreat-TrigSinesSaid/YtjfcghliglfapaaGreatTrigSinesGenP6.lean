/- Printed by geng.py: a call does what the plain function says. -/
import Derived.Test.YtjfcghliglfapaaGreatTrigSinesGenP5
set_option maxRecDepth 4000
namespace Go.Proofs.YtjfcghliglfapaaGreat.Gen
open Go Go.Abs Go.Proofs Go.Proofs.Tryz
instance r06_CMul_i (a0:AI) (a1:AI) (a2:Int) (a3:Int):CC (r06_CMul a0 a1 a2 a3) Tryz.prog 73 [(.ptr 0 0),(.agg (kI.enc a0)),(.agg (kI.enc a1))] [(.live 83 [(.int .i64 a2),(.int .i64 a3)])] (fun r=>(.agg (kI.enc (⟨⟨(((r.1).Lo).M),((r.1).Lo).E⟩,⟨(((r.1).Hi).M),((r.1).Hi).E⟩⟩:AI)))) (fun r=>[(.live 83 [(.int .i64 a2),(.int .i64 r.2)])]):=cc func73 (by kernel_rfl) rfl fun E=>by
 unfold r06_CMul
 refine .g 13 rfl<|.st rfl (bs kI [a0,a1] rfl rfl) rfl<|.bind fun x45 h1=>.st rfl (cl (CC.h h1) [0] [] [true] rfl (.p rfl<|.l<|.nil) (.p rfl (.i<|.i<|.nil) .nil) fnil (.cons (.v (.i<|.i<|.nil)) .nil) (.bool _) (.turned .nil) rfl) rfl<|.g 3 rfl<|?_
 refine .cd rfl (fun _ _=>?_) fun _ _=>?_
 ·refine .g 8 rfl<|.fi rfl rfl
 ·refine .g 12 rfl<|.st rfl (bs kD [a0.Lo,a0.Lo,a0.Hi,a0.Hi] rfl rfl) rfl<|.g 13 rfl<|.st rfl (bs kD [a1.Lo,a1.Hi,a1.Lo,a1.Hi] rfl rfl) rfl<|.g 14 rfl<|?_
  refine .cut (fun x:Int × (List AD)=>(r06_CMul_j1 a2 x.1 x.2,[eP 0 0,eP 6 3,(9,some (grA kD 4 x.2))],[(0,(.live 83 [(.int .i64 a2),(.int .i64 x.1)])),(3,(.live 30 [(.bool false),(slK (kInt .u32) []),(.int .i64 0),(.bool false),(slK (kInt .u32) []),(.int .i64 0)])),(4,(grV kD 26 x.2))])) ?_ ?_
  ·rintro ⟨y64,y65⟩
   dsimp only [r06_CMul_j1]
   refine .g 2 rfl<|?_
   refine .weak ?_ (fun a w h=>Conc.gr_still kD h 9 4 26 y65 rfl rfl)
   refine .g 3 rfl<|.p0 rfl rfl fun x66 _=>.bind fun x67 h51=>.st rfl (cl (CC.h h51) [0] [] [true] rfl (.p rfl<|.a kD<|.b<|.nil) (.p rfl (.i<|.i<|.nil) .nil) fnil (.cons (.v (.i<|.i<|.nil)) .nil) (ren_agg (K:=kD) _) (.turned .nil) rfl) rfl<|.g 8 rfl<|.p0 rfl rfl fun x68 _=>.bind fun x69 h53=>.st rfl (cl (CC.h h53) [0] [] [true] rfl (.p rfl<|.a kD<|.b<|.nil) (.p rfl (.i<|.i<|.nil) .nil) fnil (.cons (.v (.i<|.i<|.nil)) .nil) (ren_agg (K:=kD) _) (.turned .nil) rfl) rfl<|.g 9 rfl<|.bind fun x70 h54=>.st rfl (cl (CC.h h54) [0] [] [false] rfl (.p rfl<|.a kD<|.a kD<|.nil) (.p rfl (.i<|.i<|.nil) .nil) fnil (.cons (.v (.i<|.i<|.nil)) .nil) (ren_agg (K:=kI) _) (.kept rfl .nil) rfl) rfl<|.g 4 rfl<|.fi rfl rfl
  ·intro h55
   refine .g 1 rfl<|?_
   refine .weak ?_ (fun a w h=>Conc.gr_nil kD h 9 4 26 rfl)
   refine .lo (fun n (x:Int × Int × (List AD))=>r06_CMul_l2 a0 a1 a2 n x.1 x.2.1 x.2.2) (fun x=>([eP 0 0,eP 6 3,eK kD 7 [a0.Lo,a0.Lo,a0.Hi,a0.Hi],eK kD 8 [a1.Lo,a1.Hi,a1.Lo,a1.Hi],(9,some (grA kD 4 x.2.2)),eI 10 x.1],[(0,(.live 83 [(.int .i64 a2),(.int .i64 x.2.1)])),(3,(.live 30 [(.bool false),(slK (kInt .u32) []),(.int .i64 0),(.bool false),(slK (kInt .u32) []),(.int .i64 0)])),(4,(grV kD 26 x.2.2))])) (0,x45.2,[]) rfl (fun hE=>jn (m:=1) [(0,0),(3,3),(4,4)] hE (.p rfl rfl<|.p rfl rfl<|.l rfl<|.l rfl<|.g rfl (ren_gr (K:=kD) (by rfl) [])<|.i rfl<|.nil) (.v rfl (.i<|.i<|.nil)<|.v rfl (.b<|.l<|.i<|.b<|.l<|.i<|.nil)<|.cons (.refl _) (renV_gr (K:=kD) 26 [])<|.nil) rfl) ?_
   rintro n2 ⟨y82,y83,y84⟩
   try dsimp only
   rw [r06_CMul_l2]
   refine .g 7 rfl<|?_
   refine .cd rfl (fun _ _=>?_) fun _ _=>?_
   ·refine .g 8 rfl<|.ix rfl rfl<|.g 3 rfl<|.ix rfl rfl<|.g 1 rfl<|.p0 rfl rfl fun x87 _=>.g 6 rfl<|.dn (by kernel_rfl)<|.g 6 rfl<|.bind fun x88 h98=>.st rfl (cl (CC.h h98) [0] [] [true] rfl (.p rfl<|.i<|.nil) (.p rfl (.i<|.i<|.nil) .nil) fnil (.cons (.v (.i<|.i<|.nil)) .nil) (.bool _) (.turned .nil) rfl) rfl<|.g 3 rfl<|?_
    refine .cd rfl (fun _ _=>?_) fun _ _=>?_
    ·refine .g 13 rfl<|.fi rfl rfl
    ·refine .g 5 rfl<|.st rfl (bs kD [(⟨((x87.1).M),(x87.1).E⟩:AD)] rfl rfl) rfl<|.guard fun h101=>.sv (.row 2 kD.sz 0 (((y84++[(⟨((x87.1).M),(x87.1).E⟩:AD)])).length)) [(2,(rwK kD 26 (y84++[(⟨((x87.1).M),(x87.1).E⟩:AD)]))),(4,.dead)] rfl (snd_appendK_gr kD _ _ _ _ _ 4 2 y84 [(⟨((x87.1).M),(x87.1).E⟩:AD)] rfl underlying101 ze26 sb26 rfl rfl rfl rfl rfl rfl rfl h101) rfl<|.g 9 rfl<|?_
     refine .weak ?_ (fun a w h=>Conc.gr_row kD h 9 2 26 (y84++[(⟨((x87.1).M),(x87.1).E⟩:AD)]) rfl rfl (by first | omega | (simp only [List.length_append,List.length_cons,List.length_set]; omega) | simp))
     exact .ao ((IntKind.i64.wrap (y82+1)),x88.2,(y84++[(⟨((x87.1).M),(x87.1).E⟩:AD)])) rfl fun hE=>jn (m:=1) [(0,0),(3,3),(2,4)] hE (.p rfl rfl<|.p rfl rfl<|.l rfl<|.l rfl<|.g rfl (ren_gr (K:=kD) (by rfl) (y84++[(⟨((x87.1).M),(x87.1).E⟩:AD)]))<|.i rfl<|.nil) (.v rfl (.i<|.i<|.nil)<|.v rfl (.b<|.l<|.i<|.b<|.l<|.i<|.nil)<|.cons (.refl _) (renV_gr (K:=kD) 26 (y84++[(⟨((x87.1).M),(x87.1).E⟩:AD)]))<|.nil) rfl
   ·refine .g 4 rfl<|.jo (h55 (y83,y84)) rfl fun hE=>jn (m:=1) [(0,0),(3,3),(4,4)] hE (.p rfl rfl<|.p rfl rfl<|.g rfl (ren_gr (K:=kD) (by rfl) y84)<|.nil) (.v rfl (.i<|.i<|.nil)<|.v rfl (.b<|.l<|.i<|.b<|.l<|.i<|.nil)<|.cons (.refl _) (renV_gr (K:=kD) 26 y84)<|.nil) rfl
instance r07_Terms_i (a0:Int):PC (r07_Terms a0) Tryz.prog 137 [(.int .i64 a0)] (fun r=>(.int .i64 r)):=pc func137 (by kernel_rfl) rfl fun E=>by
 unfold r07_Terms
 refine .g 16 rfl<|.fi rfl rfl
instance r06_CNeg_i (a0:AI) (a1:Int) (a2:Int):CC (r06_CNeg a0 a1 a2) Tryz.prog 157 [(.ptr 0 0),(.agg (kI.enc a0))] [(.live 83 [(.int .i64 a1),(.int .i64 a2)])] (fun r=>(.agg (kI.enc (⟨⟨(((r.1).Lo).M),((r.1).Lo).E⟩,⟨(((r.1).Hi).M),((r.1).Hi).E⟩⟩:AI)))) (fun r=>[(.live 83 [(.int .i64 a1),(.int .i64 r.2)])]):=cc func157 (by kernel_rfl) rfl fun E=>by
 unfold r06_CNeg
 refine .g 11 rfl<|.st rfl (bs kI [a0] rfl rfl) rfl<|.bind fun x4 h1=>.st rfl (cl (CC.h h1) [0] [] [true] rfl (.p rfl<|.l<|.nil) (.p rfl (.i<|.i<|.nil) .nil) fnil (.cons (.v (.i<|.i<|.nil)) .nil) (.bool _) (.turned .nil) rfl) rfl<|.g 3 rfl<|?_
 refine .cd rfl (fun _ _=>?_) fun _ _=>?_
 ·refine .g 8 rfl<|.fi rfl rfl
 ·refine .g 6 rfl<|.p0 rfl rfl fun x5 _=>.g 2 rfl<|.p0 rfl rfl fun x6 _=>.g 2 rfl<|.dn (by kernel_rfl)<|.g 2 rfl<|.fi rfl rfl
instance r04_Add_i (a0:ApiInt) (a1:ApiInt):PC (r04_Add a0 a1) Tryz.prog 232 [(.agg (kN.enc a0)),(.agg (kN.enc a1))] (fun r=>(.agg (kN.enc (r)))):=pc func232 (by kernel_rfl) rfl fun E=>by
 unfold r04_Add
 refine .g 17 rfl<|?_
 refine .cd rfl (fun _ _=>?_) fun _ _=>?_
 ·refine .g 8 rfl<|.p0 rfl rfl fun x7 _=>.p0 rfl rfl fun x8 _=>.g 1 rfl<|.dn (by kernel_rfl)<|.g 3 rfl<|.fi rfl rfl
 ·refine .g 8 rfl<|.p0 rfl rfl fun x9 _=>.g 13 rfl<|?_
  refine .cd rfl (fun _ _=>?_) fun _ _=>?_
  ·refine .g 5 rfl<|.p0 rfl rfl fun x10 _=>.g 5 rfl<|.fi rfl rfl
  ·refine .g 8 rfl<|.p0 rfl rfl fun x11 _=>.g 11 rfl<|.p0 rfl rfl fun x12 _=>.g 4 rfl<|.fi rfl rfl
instance r05_Add_i (a0:AD) (a1:AD):PC (r05_Add a0 a1) Tryz.prog 210 [(.agg (kD.enc a0)),(.agg (kD.enc a1))] (fun r=>(.tup [(.agg (kD.enc (⟨((r.1).M),(r.1).E⟩:AD))),(.int .i64 r.2)])):=pc func210 (by kernel_rfl) rfl fun E=>by
 unfold r05_Add
 refine .g 11 rfl<|.p0 rfl rfl fun x8 _=>.g 6 rfl<|.p0 rfl rfl fun x9 _=>.g 5 rfl<|?_
 refine .cut (fun x:Bool=>(r05_Add_j1 a0 a1 x,[eP 2 0,eP 3 1,eP 4 2,eB 20 x],[(0,(.live 26 [(.bool a0.M.Neg),(slK (kInt .u32) a0.M.Mag),(.int .i64 a0.E)])),(1,(.live 26 [(.bool a1.M.Neg),(slK (kInt .u32) a1.M.Mag),(.int .i64 a1.E)])),(2,(.live 26 [(.bool false),(slK (kInt .u32) []),(.int .i64 0)]))])) ?_ ?_
 ·rintro y10
  dsimp only [r05_Add_j1]
  refine .g 1 rfl<|?_
  refine .cd rfl (fun _ _=>?_) fun _ _=>?_
  ·refine .g 9 rfl<|.fi rfl rfl
  ·refine .g 6 rfl<|.p0 rfl rfl fun x11 _=>.g 15 rfl<|.p0 rfl rfl fun x12 _=>.g 1 rfl<|.p0 rfl rfl fun x13 _=>.p0 rfl rfl fun x14 _=>.g 7 rfl<|.fi rfl rfl
 ·intro h10
  refine .g 4 rfl<|?_
  refine .gd 17 rfl (fun _=>?_) fun _=>?_
  ·refine .g 4 rfl<|.jw (h10 true) [(0,0),(1,1),(2,2)] rfl
  ·refine .g 4 rfl<|.jw (h10 (!x9)) [(0,0),(1,1),(2,2)] rfl
instance r06_Cadd_i (a0:AD) (a1:AD) (a2:Int) (a3:Int):CC (r06_Cadd a0 a1 a2 a3) Tryz.prog 158 [(.ptr 0 0),(.agg (kD.enc a0)),(.agg (kD.enc a1))] [(.live 83 [(.int .i64 a2),(.int .i64 a3)])] (fun r=>(.agg (kD.enc (⟨((r.1).M),(r.1).E⟩:AD)))) (fun r=>[(.live 83 [(.int .i64 a2),(.int .i64 r.2)])]):=cc func158 (by kernel_rfl) rfl fun E=>by
 unfold r06_Cadd
 refine .g 17 rfl<|?_
 refine .cd rfl (fun _ _=>?_) fun _ _=>?_
 ·refine .g 8 rfl<|.fi rfl rfl
 ·refine .g 6 rfl<|.p0 rfl rfl fun x3 _=>.g 12 rfl<|.bind fun x4 h4=>.st rfl (cl (CC.h h4) [0] [] [true] rfl (.p rfl<|.i<|.nil) (.p rfl (.i<|.i<|.nil) .nil) fnil (.cons (.v (.i<|.i<|.nil)) .nil) (.bool _) (.turned .nil) rfl) rfl<|.g 9 rfl<|.fi rfl rfl
instance r06_CAdd_i (a0:AI) (a1:AI) (a2:Int) (a3:Int):CC (r06_CAdd a0 a1 a2 a3) Tryz.prog 84 [(.ptr 0 0),(.agg (kI.enc a0)),(.agg (kI.enc a1))] [(.live 83 [(.int .i64 a2),(.int .i64 a3)])] (fun r=>(.agg (kI.enc (⟨⟨(((r.1).Lo).M),((r.1).Lo).E⟩,⟨(((r.1).Hi).M),((r.1).Hi).E⟩⟩:AI)))) (fun r=>[(.live 83 [(.int .i64 a2),(.int .i64 r.2)])]):=cc func84 (by kernel_rfl) rfl fun E=>by
 unfold r06_CAdd
 refine .g 13 rfl<|.st rfl (bs kI [a0,a1] rfl rfl) rfl<|.bind fun x7 h1=>.st rfl (cl (CC.h h1) [0] [] [true] rfl (.p rfl<|.l<|.nil) (.p rfl (.i<|.i<|.nil) .nil) fnil (.cons (.v (.i<|.i<|.nil)) .nil) (.bool _) (.turned .nil) rfl) rfl<|.g 3 rfl<|?_
 refine .cd rfl (fun _ _=>?_) fun _ _=>?_
 ·refine .g 8 rfl<|.fi rfl rfl
 ·refine .g 10 rfl<|.bind fun x8 h4=>.st rfl (cl (CC.h h4) [0] [] [true] rfl (.p rfl<|.a kD<|.a kD<|.nil) (.p rfl (.i<|.i<|.nil) .nil) fnil (.cons (.v (.i<|.i<|.nil)) .nil) (ren_agg (K:=kD) _) (.turned .nil) rfl) rfl<|.bind fun x9 h5=>.st rfl (cl (CC.h h5) [0] [] [true] rfl (.p rfl<|.a kD<|.b<|.nil) (.p rfl (.i<|.i<|.nil) .nil) fnil (.cons (.v (.i<|.i<|.nil)) .nil) (ren_agg (K:=kD) _) (.turned .nil) rfl) rfl<|.g 12 rfl<|.bind fun x10 h6=>.st rfl (cl (CC.h h6) [0] [] [true] rfl (.p rfl<|.a kD<|.a kD<|.nil) (.p rfl (.i<|.i<|.nil) .nil) fnil (.cons (.v (.i<|.i<|.nil)) .nil) (ren_agg (K:=kD) _) (.turned .nil) rfl) rfl<|.bind fun x11 h7=>.st rfl (cl (CC.h h7) [0] [] [true] rfl (.p rfl<|.a kD<|.b<|.nil) (.p rfl (.i<|.i<|.nil) .nil) fnil (.cons (.v (.i<|.i<|.nil)) .nil) (ren_agg (K:=kD) _) (.turned .nil) rfl) rfl<|.g 9 rfl<|.bind fun x12 h8=>.st rfl (cl (CC.h h8) [0] [] [false] rfl (.p rfl<|.a kD<|.a kD<|.nil) (.p rfl (.i<|.i<|.nil) .nil) fnil (.cons (.v (.i<|.i<|.nil)) .nil) (ren_agg (K:=kI) _) (.kept rfl .nil) rfl) rfl<|.g 4 rfl<|.fi rfl rfl
instance r06_CWide_i (a0:AI) (a1:AD) (a2:Int) (a3:Int):CC (r06_CWide a0 a1 a2 a3) Tryz.prog 197 [(.ptr 0 0),(.agg (kI.enc a0)),(.agg (kD.enc a1))] [(.live 83 [(.int .i64 a2),(.int .i64 a3)])] (fun r=>(.agg (kI.enc (⟨⟨(((r.1).Lo).M),((r.1).Lo).E⟩,⟨(((r.1).Hi).M),((r.1).Hi).E⟩⟩:AI)))) (fun r=>[(.live 83 [(.int .i64 a2),(.int .i64 r.2)])]):=cc func197 (by kernel_rfl) rfl fun E=>by
 unfold r06_CWide
 refine .g 15 rfl<|.st rfl (bs kI [a0,(⟨⟨⟨false,[]⟩,0⟩,a1⟩:AI)] rfl rfl) rfl<|.bind fun x8 h1=>.st rfl (cl (CC.h h1) [0] [] [true] rfl (.p rfl<|.l<|.nil) (.p rfl (.i<|.i<|.nil) .nil) fnil (.cons (.v (.i<|.i<|.nil)) .nil) (.bool _) (.turned .nil) rfl) rfl<|.g 3 rfl<|?_
 refine .cd rfl (fun _ _=>?_) fun _ _=>?_
 ·refine .g 8 rfl<|.fi rfl rfl
 ·refine .g 9 rfl<|.p0 rfl rfl fun x9 _=>.bind fun x10 h5=>.st rfl (cl (CC.h h5) [0] [] [true] rfl (.p rfl<|.a kD<|.a kD<|.nil) (.p rfl (.i<|.i<|.nil) .nil) fnil (.cons (.v (.i<|.i<|.nil)) .nil) (ren_agg (K:=kD) _) (.turned .nil) rfl) rfl<|.bind fun x11 h6=>.st rfl (cl (CC.h h6) [0] [] [true] rfl (.p rfl<|.a kD<|.b<|.nil) (.p rfl (.i<|.i<|.nil) .nil) fnil (.cons (.v (.i<|.i<|.nil)) .nil) (ren_agg (K:=kD) _) (.turned .nil) rfl) rfl<|.g 2 rfl<|.dn (by kernel_rfl)<|.g 8 rfl<|.bind fun x12 h7=>.st rfl (cl (CC.h h7) [0] [] [true] rfl (.p rfl<|.a kD<|.a kD<|.nil) (.p rfl (.i<|.i<|.nil) .nil) fnil (.cons (.v (.i<|.i<|.nil)) .nil) (ren_agg (K:=kD) _) (.turned .nil) rfl) rfl<|.bind fun x13 h8=>.st rfl (cl (CC.h h8) [0] [] [true] rfl (.p rfl<|.a kD<|.b<|.nil) (.p rfl (.i<|.i<|.nil) .nil) fnil (.cons (.v (.i<|.i<|.nil)) .nil) (ren_agg (K:=kD) _) (.turned .nil) rfl) rfl<|.g 9 rfl<|?_
  refine .bind fun x14 h9=>.st rfl (cl (CC.h h9) [0] [] [false] rfl (.p rfl<|.a kD<|.a kD<|.nil) (.p rfl (.i<|.i<|.nil) .nil) fnil (.cons (.v (.i<|.i<|.nil)) .nil) (ren_agg (K:=kI) _) (.kept rfl .nil) rfl) rfl<|.g 4 rfl<|.fi rfl rfl
instance r07_ends_i (a0:AI) (a1:Int) (a2:Int):CC (r07_ends a0 a1 a2) Tryz.prog 138 [(.ptr 0 0),(.agg (kI.enc a0))] [(.live 83 [(.int .i64 a1),(.int .i64 a2)])] (fun r=>(.agg (kI.enc (⟨⟨(((r.1).Lo).M),((r.1).Lo).E⟩,⟨(((r.1).Hi).M),((r.1).Hi).E⟩⟩:AI)))) (fun r=>[(.live 83 [(.int .i64 a1),(.int .i64 r.2)])]):=cc func138 (by kernel_rfl) rfl fun E=>by
 unfold r07_ends
 refine .g 15 rfl<|.p0 rfl rfl fun x3 _=>.bind fun x4 h2=>.st rfl (cl (CC.h h2) [0] [] [true] rfl (.p rfl<|.a kI<|.a kD<|.nil) (.p rfl (.i<|.i<|.nil) .nil) fnil (.cons (.v (.i<|.i<|.nil)) .nil) (ren_agg (K:=kI) _) (.turned .nil) rfl) rfl<|.g 1 rfl<|.dn (by kernel_rfl)<|.g 2 rfl<|.fi rfl rfl
instance r07_Atan_i (a0:AI) (a1:Int) (a2:Int):CC (r07_Atan a0 a1 a2) Tryz.prog 176 [(.ptr 0 0),(.agg (kI.enc a0))] [(.live 83 [(.int .i64 a1),(.int .i64 a2)])] (fun r=>(.agg (kI.enc (⟨⟨(((r.1).Lo).M),((r.1).Lo).E⟩,⟨(((r.1).Hi).M),((r.1).Hi).E⟩⟩:AI)))) (fun r=>[(.live 83 [(.int .i64 a1),(.int .i64 r.2)])]):=cc func176 (by kernel_rfl) rfl fun E=>by
 unfold r07_Atan
 refine .g 11 rfl<|.bind fun x133 h1=>.st rfl (cl (CC.h h1) [0] [] [true] rfl (.p rfl<|.a kI<|.i<|.nil) (.p rfl (.i<|.i<|.nil) .nil) fnil (.cons (.v (.i<|.i<|.nil)) .nil) (.bool _) (.turned .nil) rfl) rfl<|.g 3 rfl<|?_
 refine .cd rfl (fun _ _=>?_) fun _ _=>?_
 ·refine .g 8 rfl<|.fi rfl rfl
 ·refine .g 7 rfl<|.bind fun x134 h4=>.st rfl (cl (CC.h h4) [0] [] [true] rfl (.p rfl<|.a kI<|.a kI<|.nil) (.p rfl (.i<|.i<|.nil) .nil) fnil (.cons (.v (.i<|.i<|.nil)) .nil) (ren_agg (K:=kI) _) (.turned .nil) rfl) rfl<|.g 24 rfl<|?_
  refine .cut (fun x:Int × Bool × (List Int) × Int × Bool × (List Int) × Int=>(r07_Atan_j1 a1 x.1 x.2.1 x.2.2.1 x.2.2.2.1 x.2.2.2.2.1 x.2.2.2.2.2.1 x.2.2.2.2.2.2,[eP 0 0,eP 4 2,eP 6 4],[(0,(.live 83 [(.int .i64 a1),(.int .i64 x.1)])),(2,(.live 30 [(.bool false),(slK (kInt .u32) []),(.int .i64 0),(.bool false),(slK (kInt .u32) []),(.int .i64 0)])),(4,(.live 30 [(.bool x.2.1),(slK (kInt .u32) x.2.2.1),(.int .i64 x.2.2.2.1),(.bool x.2.2.2.2.1),(slK (kInt .u32) x.2.2.2.2.2.1),(.int .i64 x.2.2.2.2.2.2)]))])) ?_ ?_
  ·rintro ⟨y196,y197,y198,y199,y200,y201,y202⟩
   dsimp only [r07_Atan_j1]
   refine .g 5 rfl<|.bind fun x203 h44=>.st rfl (cl (CC.h h44) [0] [] [true] rfl (.p rfl<|.a kI<|.nil) (.p rfl (.i<|.i<|.nil) .nil) fnil (.cons (.v (.i<|.i<|.nil)) .nil) (ren_agg (K:=kI) _) (.turned .nil) rfl) rfl<|.g 4 rfl<|.fi rfl rfl
  ·intro h45
   refine .g 1 rfl<|?_
   refine .lp (fun n (x:Int × Int × Bool × (List Int) × Int × Bool × (List Int) × Int × Bool × (List Int) × Int × Bool × (List Int) × Int)=>r07_Atan_l2 a1 x134 n x.1 x.2.1 x.2.2.1 x.2.2.2.1 x.2.2.2.2.1 x.2.2.2.2.2.1 x.2.2.2.2.2.2.1 x.2.2.2.2.2.2.2.1 x.2.2.2.2.2.2.2.2.1 x.2.2.2.2.2.2.2.2.2.1 x.2.2.2.2.2.2.2.2.2.2.1 x.2.2.2.2.2.2.2.2.2.2.2.1 x.2.2.2.2.2.2.2.2.2.2.2.2.1 x.2.2.2.2.2.2.2.2.2.2.2.2.2) (fun x=>([eP 0 0,eP 4 2,eP 5 3,eP 6 4,eP 7 5,eI 8 x.1],[(0,(.live 83 [(.int .i64 a1),(.int .i64 x.2.1)])),(2,(.live 30 [(.bool false),(slK (kInt .u32) []),(.int .i64 0),(.bool false),(slK (kInt .u32) []),(.int .i64 0)])),(3,(.live 30 [(.bool ((((x134.1).Lo).M).Neg)),(slK (kInt .u32) ((((x134.1).Lo).M).Mag)),(.int .i64 (((x134.1).Lo).E)),(.bool ((((x134.1).Hi).M).Neg)),(slK (kInt .u32) ((((x134.1).Hi).M).Mag)),(.int .i64 (((x134.1).Hi).E))])),(4,(.live 30 [(.bool x.2.2.1),(slK (kInt .u32) x.2.2.2.1),(.int .i64 x.2.2.2.2.1),(.bool x.2.2.2.2.2.1),(slK (kInt .u32) x.2.2.2.2.2.2.1),(.int .i64 x.2.2.2.2.2.2.2.1)])),(5,(.live 30 [(.bool x.2.2.2.2.2.2.2.2.1),(slK (kInt .u32) x.2.2.2.2.2.2.2.2.2.1),(.int .i64 x.2.2.2.2.2.2.2.2.2.2.1),(.bool x.2.2.2.2.2.2.2.2.2.2.2.1),(slK (kInt .u32) x.2.2.2.2.2.2.2.2.2.2.2.2.1),(.int .i64 x.2.2.2.2.2.2.2.2.2.2.2.2.2)]))])) (1,x134.2,a0.Lo.M.Neg,a0.Lo.M.Mag,a0.Lo.E,a0.Hi.M.Neg,a0.Hi.M.Mag,a0.Hi.E,a0.Lo.M.Neg,a0.Lo.M.Mag,a0.Lo.E,a0.Hi.M.Neg,a0.Hi.M.Mag,a0.Hi.E) [(0,0),(2,2),(3,3),(4,4),(5,5)] rfl ?_
   rintro n2 ⟨y240,y241,y242,y243,y244,y245,y246,y247,y248,y249,y250,y251,y252,y253⟩
   try dsimp only
   rw [r07_Atan_l2]
   refine .g 8 rfl<|.p0 rfl rfl fun x254 _=>.g 3 rfl<|?_
   refine .cd rfl (fun _ _=>?_) fun _ _=>?_
   ·refine .g 10 rfl<|.bind fun x260 h80=>.st rfl (cl (CC.h h80) [0] [] [true] rfl (.p rfl<|.a kI<|.a kI<|.nil) (.p rfl (.i<|.i<|.nil) .nil) fnil (.cons (.v (.i<|.i<|.nil)) .nil) (ren_agg (K:=kI) _) (.turned .nil) rfl) rfl<|.bind fun x261 h81=>.st rfl (cl (CC.h h81) [0] [] [true] rfl (.p rfl<|.a kI<|.nil) (.p rfl (.i<|.i<|.nil) .nil) fnil (.cons (.v (.i<|.i<|.nil)) .nil) (ren_agg (K:=kI) _) (.turned .nil) rfl) rfl<|.g 12 rfl<|.bind fun x262 h82=>.st rfl (cl (CC.h h82) [0] [] [true] rfl (.p rfl<|.i<|.nil) (.p rfl (.i<|.i<|.nil) .nil) fnil (.cons (.v (.i<|.i<|.nil)) .nil) (ren_agg (K:=kI) _) (.turned .nil) rfl) rfl<|.bind fun x263 h83=>.st rfl (cl (CC.h h83) [0] [] [true] rfl (.p rfl<|.a kI<|.a kI<|.nil) (.p rfl (.i<|.i<|.nil) .nil) fnil (.cons (.v (.i<|.i<|.nil)) .nil) (ren_agg (K:=kI) _) (.turned .nil) rfl) rfl<|.bind fun x264 h84=>.st rfl (cl (CC.h h84) [0] [] [true] rfl (.p rfl<|.a kI<|.a kI<|.nil) (.p rfl (.i<|.i<|.nil) .nil) fnil (.cons (.v (.i<|.i<|.nil)) .nil) (ren_agg (K:=kI) _) (.turned .nil) rfl) rfl<|.g 1 rfl<|.dn (by kernel_rfl)<|?_
    refine .g 7 rfl<|.ag ((IntKind.i64.wrap (y240+1)),x264.2,(((x264.1).Lo).M).Neg,(((x264.1).Lo).M).Mag,((x264.1).Lo).E,(((x264.1).Hi).M).Neg,(((x264.1).Hi).M).Mag,((x264.1).Hi).E,(((x261.1).Lo).M).Neg,(((x261.1).Lo).M).Mag,((x261.1).Lo).E,(((x261.1).Hi).M).Neg,(((x261.1).Hi).M).Mag,((x261.1).Hi).E) [(0,0),(2,2),(3,3),(4,4),(5,5)] rfl
   ·refine .g 4 rfl<|.jw (h45 (y241,y242,y243,y244,y245,y246,y247)) [(0,0),(2,2),(4,4)] rfl
instance r05_Scale_i (a0:AD) (a1:Int):PC (r05_Scale a0 a1) Tryz.prog 79 [(.agg (kD.enc a0)),(.int .i64 a1)] (fun r=>(.tup [(.agg (kD.enc (⟨((r.1).M),(r.1).E⟩:AD))),(.int .i64 r.2)])):=pc func79 (by kernel_rfl) rfl fun E=>by
 unfold r05_Scale
 refine .g 10 rfl<|.p0 rfl rfl fun x4 _=>.g 10 rfl<|?_
 refine .cd rfl (fun _ _=>?_) fun _ _=>?_
 ·refine .g 9 rfl<|.fi rfl rfl
 ·refine .g 4 rfl<|?_
  refine .cut (fun x:Bool=>(r05_Scale_j1 a0 a1 x,[eI 1 a1,eP 2 0,eP 4 1,eB 17 x],[(0,(.live 26 [(.bool a0.M.Neg),(slK (kInt .u32) a0.M.Mag),(.int .i64 a0.E)])),(1,(.live 26 [(.bool false),(slK (kInt .u32) []),(.int .i64 0)]))])) ?_ ?_
  ·rintro y5
   dsimp only [r05_Scale_j1]
   refine .g 1 rfl<|?_
   refine .cd rfl (fun _ _=>?_) fun _ _=>?_
   ·refine .g 9 rfl<|.fi rfl rfl
   ·refine .g 8 rfl<|.ln rfl rfl<|.g 3 rfl<|?_
    refine .cd rfl (fun _ _=>?_) fun _ _=>?_
    ·refine .g 9 rfl<|.fi rfl rfl
    ·refine .g 11 rfl<|.p0 rfl rfl fun x6 _=>.g 7 rfl<|.fi rfl rfl
  ·intro h10
   refine .g 4 rfl<|?_
   refine .gd 14 rfl (fun _=>?_) fun _=>?_
   ·refine .g 4 rfl<|.jw (h10 true) [(0,0),(1,1)] rfl
   ·refine .g 4 rfl<|.jw (h10 (decide (a1>100000))) [(0,0),(1,1)] rfl
instance r06_CScale_i (a0:AI) (a1:Int) (a2:Int) (a3:Int):CC (r06_CScale a0 a1 a2 a3) Tryz.prog 71 [(.ptr 0 0),(.agg (kI.enc a0)),(.int .i64 a1)] [(.live 83 [(.int .i64 a2),(.int .i64 a3)])] (fun r=>(.agg (kI.enc (⟨⟨(((r.1).Lo).M),((r.1).Lo).E⟩,⟨(((r.1).Hi).M),((r.1).Hi).E⟩⟩:AI)))) (fun r=>[(.live 83 [(.int .i64 a2),(.int .i64 r.2)])]):=cc func71 (by kernel_rfl) rfl fun E=>by
 unfold r06_CScale
 refine .g 11 rfl<|.st rfl (bs kI [a0] rfl rfl) rfl<|.bind fun x7 h1=>.st rfl (cl (CC.h h1) [0] [] [true] rfl (.p rfl<|.l<|.nil) (.p rfl (.i<|.i<|.nil) .nil) fnil (.cons (.v (.i<|.i<|.nil)) .nil) (.bool _) (.turned .nil) rfl) rfl<|.g 3 rfl<|?_
 refine .cd rfl (fun _ _=>?_) fun _ _=>?_
 ·refine .g 8 rfl<|.fi rfl rfl
 ·refine .g 7 rfl<|.p0 rfl rfl fun x8 _=>.g 13 rfl<|.bind fun x9 h5=>.st rfl (cl (CC.h h5) [0] [] [true] rfl (.p rfl<|.i<|.nil) (.p rfl (.i<|.i<|.nil) .nil) fnil (.cons (.v (.i<|.i<|.nil)) .nil) (.bool _) (.turned .nil) rfl) rfl<|.g 3 rfl<|?_
  refine .cd rfl (fun _ _=>?_) fun _ _=>?_
  ·refine .g 8 rfl<|.fi rfl rfl
  ·refine .g 7 rfl<|.p0 rfl rfl fun x10 _=>.g 12 rfl<|.bind fun x11 h9=>.st rfl (cl (CC.h h9) [0] [] [true] rfl (.p rfl<|.i<|.nil) (.p rfl (.i<|.i<|.nil) .nil) fnil (.cons (.v (.i<|.i<|.nil)) .nil) (.bool _) (.turned .nil) rfl) rfl<|.g 7 rfl<|.bind fun x12 h10=>.st rfl (cl (CC.h h10) [0] [] [false] rfl (.p rfl<|.a kD<|.a kD<|.nil) (.p rfl (.i<|.i<|.nil) .nil) fnil (.cons (.v (.i<|.i<|.nil)) .nil) (ren_agg (K:=kI) _) (.kept rfl .nil) rfl) rfl<|.g 4 rfl<|.fi rfl rfl
instance r06_CSub_i (a0:AI) (a1:AI) (a2:Int) (a3:Int):CC (r06_CSub a0 a1 a2 a3) Tryz.prog 82 [(.ptr 0 0),(.agg (kI.enc a0)),(.agg (kI.enc a1))] [(.live 83 [(.int .i64 a2),(.int .i64 a3)])] (fun r=>(.agg (kI.enc (⟨⟨(((r.1).Lo).M),((r.1).Lo).E⟩,⟨(((r.1).Hi).M),((r.1).Hi).E⟩⟩:AI)))) (fun r=>[(.live 83 [(.int .i64 a2),(.int .i64 r.2)])]):=cc func82 (by kernel_rfl) rfl fun E=>by
 unfold r06_CSub
 refine .g 13 rfl<|.st rfl (bs kI [a0,a1] rfl rfl) rfl<|.bind fun x4 h1=>.st rfl (cl (CC.h h1) [0] [] [true] rfl (.p rfl<|.l<|.nil) (.p rfl (.i<|.i<|.nil) .nil) fnil (.cons (.v (.i<|.i<|.nil)) .nil) (.bool _) (.turned .nil) rfl) rfl<|.g 3 rfl<|?_
 refine .cd rfl (fun _ _=>?_) fun _ _=>?_
 ·refine .g 8 rfl<|.fi rfl rfl
 ·refine .g 8 rfl<|.bind fun x5 h4=>.st rfl (cl (CC.h h4) [0] [] [true] rfl (.p rfl<|.a kI<|.nil) (.p rfl (.i<|.i<|.nil) .nil) fnil (.cons (.v (.i<|.i<|.nil)) .nil) (ren_agg (K:=kI) _) (.turned .nil) rfl) rfl<|.bind fun x6 h5=>.st rfl (cl (CC.h h5) [0] [] [true] rfl (.p rfl<|.a kI<|.a kI<|.nil) (.p rfl (.i<|.i<|.nil) .nil) fnil (.cons (.v (.i<|.i<|.nil)) .nil) (ren_agg (K:=kI) _) (.turned .nil) rfl) rfl<|.g 1 rfl<|.dn (by kernel_rfl)<|.g 2 rfl<|.fi rfl rfl
instance r08_Pi_i (a0:Int) (a1:Int):CC (r08_Pi a0 a1) Tryz.prog 116 [(.ptr 0 0)] [(.live 83 [(.int .i64 a0),(.int .i64 a1)])] (fun r=>(.agg (kI.enc (⟨⟨(((r.1).Lo).M),((r.1).Lo).E⟩,⟨(((r.1).Hi).M),((r.1).Hi).E⟩⟩:AI)))) (fun r=>[(.live 83 [(.int .i64 a0),(.int .i64 r.2)])]):=cc func116 (by kernel_rfl) rfl fun E=>by
 unfold r08_Pi
 refine .g 10 rfl<|.bind fun x12 h1=>.st rfl (cl (CC.h h1) [0] [] [true] rfl (.p rfl<|.i<|.nil) (.p rfl (.i<|.i<|.nil) .nil) fnil (.cons (.v (.i<|.i<|.nil)) .nil) (ren_agg (K:=kI) _) (.turned .nil) rfl) rfl<|.g 1 rfl<|.bind fun x13 h2=>.st rfl (cl (CC.h h2) [0] [] [true] rfl (.p rfl<|.i<|.nil) (.p rfl (.i<|.i<|.nil) .nil) fnil (.cons (.v (.i<|.i<|.nil)) .nil) (ren_agg (K:=kI) _) (.turned .nil) rfl) rfl<|.bind fun x14 h3=>.st rfl (cl (CC.h h3) [0] [] [true] rfl (.p rfl<|.a kI<|.a kI<|.nil) (.p rfl (.i<|.i<|.nil) .nil) fnil (.cons (.v (.i<|.i<|.nil)) .nil) (ren_agg (K:=kI) _) (.turned .nil) rfl) rfl<|.bind fun x15 h4=>.st rfl (cl (CC.h h4) [0] [] [true] rfl (.p rfl<|.a kI<|.nil) (.p rfl (.i<|.i<|.nil) .nil) fnil (.cons (.v (.i<|.i<|.nil)) .nil) (ren_agg (K:=kI) _) (.turned .nil) rfl) rfl<|.g 9 rfl<|.bind fun x16 h5=>.st rfl (cl (CC.h h5) [0] [] [true] rfl (.p rfl<|.i<|.nil) (.p rfl (.i<|.i<|.nil) .nil) fnil (.cons (.v (.i<|.i<|.nil)) .nil) (ren_agg (K:=kI) _) (.turned .nil) rfl) rfl<|.g 1 rfl<|?_
 refine .bind fun x17 h6=>.st rfl (cl (CC.h h6) [0] [] [true] rfl (.p rfl<|.i<|.nil) (.p rfl (.i<|.i<|.nil) .nil) fnil (.cons (.v (.i<|.i<|.nil)) .nil) (ren_agg (K:=kI) _) (.turned .nil) rfl) rfl<|.bind fun x18 h7=>.st rfl (cl (CC.h h7) [0] [] [true] rfl (.p rfl<|.a kI<|.a kI<|.nil) (.p rfl (.i<|.i<|.nil) .nil) fnil (.cons (.v (.i<|.i<|.nil)) .nil) (ren_agg (K:=kI) _) (.turned .nil) rfl) rfl<|.bind fun x19 h8=>.st rfl (cl (CC.h h8) [0] [] [true] rfl (.p rfl<|.a kI<|.nil) (.p rfl (.i<|.i<|.nil) .nil) fnil (.cons (.v (.i<|.i<|.nil)) .nil) (ren_agg (K:=kI) _) (.turned .nil) rfl) rfl<|.g 9 rfl<|.bind fun x20 h9=>.st rfl (cl (CC.h h9) [0] [] [true] rfl (.p rfl<|.a kI<|.i<|.nil) (.p rfl (.i<|.i<|.nil) .nil) fnil (.cons (.v (.i<|.i<|.nil)) .nil) (ren_agg (K:=kI) _) (.turned .nil) rfl) rfl<|.g 2 rfl<|.bind fun x21 h10=>.st rfl (cl (CC.h h10) [0] [] [true] rfl (.p rfl<|.a kI<|.i<|.nil) (.p rfl (.i<|.i<|.nil) .nil) fnil (.cons (.v (.i<|.i<|.nil)) .nil) (ren_agg (K:=kI) _) (.turned .nil) rfl) rfl<|.bind fun x22 h11=>.st rfl (cl (CC.h h11) [0] [] [true] rfl (.p rfl<|.a kI<|.a kI<|.nil) (.p rfl (.i<|.i<|.nil) .nil) fnil (.cons (.v (.i<|.i<|.nil)) .nil) (ren_agg (K:=kI) _) (.turned .nil) rfl) rfl<|?_
 refine .g 1 rfl<|.dn (by kernel_rfl)<|.g 2 rfl<|.fi rfl rfl
instance r04_Shift_i (a0:ApiInt) (a1:Int):PC (r04_Shift a0 a1) Tryz.prog 178 [(.agg (kN.enc a0)),(.int .i64 a1)] (fun r=>(.tup [(.agg (kN.enc (r.1))),(.bool r.2)])):=pc func178 (by kernel_rfl) rfl fun E=>by
 unfold r04_Shift
 refine .g 9 rfl<|?_
 refine .cut (fun x:Bool=>(r04_Shift_j1 a0 a1 x,[eI 1 a1,eP 2 0,eP 4 1,eB 17 x],[(0,(.live 24 [(.bool a0.Neg),(slK (kInt .u32) a0.Mag)])),(1,(.live 24 [(.bool false),(slK (kInt .u32) [])]))])) ?_ ?_
 ·rintro y14
  dsimp only [r04_Shift_j1]
  refine .g 1 rfl<|?_
  refine .cd rfl (fun _ _=>?_) fun _ _=>?_
  ·refine .g 9 rfl<|.fi rfl rfl
  ·refine .g 8 rfl<|.p0 rfl rfl fun x15 _=>.g 11 rfl<|?_
   refine .cd rfl (fun _ _=>?_) fun _ _=>?_
   ·refine .g 5 rfl<|.p0 rfl rfl fun x16 _=>.g 12 rfl<|.p0 rfl rfl fun x17 _=>.g 6 rfl<|.fi rfl rfl
   ·refine .g 8 rfl<|.p0 rfl rfl fun x18 _=>.g 8 rfl<|.p0 rfl rfl fun x19 _=>.g 9 rfl<|?_
    refine .cut (fun x:Bool=>(r04_Shift_j2 x18 x15 x,[eP 4 1,eP 6 2,eL 9 x18,eB 57 x],[(1,(.live 24 [(.bool false),(slK (kInt .u32) [])])),(2,(.live 24 [(.bool ((x15).Neg)),(slK (kInt .u32) ((x15).Mag))]))])) ?_ ?_
    ·rintro y21
     dsimp only [r04_Shift_j2]
     refine .g 1 rfl<|?_
     refine .cut (fun x:(List Int)=>(r04_Shift_j3 x15 x,[eP 4 1,eP 6 2,eL 9 x],[(1,(.live 24 [(.bool false),(slK (kInt .u32) [])])),(2,(.live 24 [(.bool ((x15).Neg)),(slK (kInt .u32) ((x15).Mag))]))])) ?_ ?_
     ·rintro y23
      dsimp only [r04_Shift_j3]
      refine .g 6 rfl<|.p0 rfl rfl fun x24 _=>.g 5 rfl<|.fi rfl rfl
     ·intro h17
      refine .cd rfl (fun _ _=>?_) fun _ _=>?_
      ·refine .g 2 rfl<|.st rfl (bs (kInt .u32) [1] rfl rfl) rfl<|.p0 rfl rfl fun x25 _=>.g 2 rfl<|.jw (h17 x25) [(1,1),(2,2)] rfl
      ·refine .g 1 rfl<|.jw (h17 x18) [(1,1),(2,2)] rfl
    ·intro h21
     refine .g 4 rfl<|?_
     refine .gd 51 rfl (fun _=>?_) fun _=>?_
     ·refine .g 3 rfl<|.p0 rfl rfl fun x26 _=>.g 3 rfl<|.jw (h21 (x26 != 0)) [(1,1),(2,2)] rfl
     ·refine .g 7 rfl<|.jw (h21 false) [(1,1),(2,2)] rfl
 ·intro h24
  refine .g 4 rfl<|?_
  refine .gd 14 rfl (fun _=>?_) fun _=>?_
  ·refine .g 4 rfl<|.jw (h24 true) [(0,0),(1,1)] rfl
  ·refine .g 4 rfl<|.jw (h24 (decide (a1>100000))) [(0,0),(1,1)] rfl
instance r05_Floor_i (a0:AD):PC (r05_Floor a0) Tryz.prog 118 [(.agg (kD.enc a0))] (fun r=>(.tup [(.agg (kN.enc (r.1))),(.int .i64 r.2)])):=pc func118 (by kernel_rfl) rfl fun E=>by
 unfold r05_Floor
 refine .g 10 rfl<|.p0 rfl rfl fun x9 _=>.g 10 rfl<|?_
 refine .cd rfl (fun _ _=>?_) fun _ _=>?_
 ·refine .g 9 rfl<|.fi rfl rfl
 ·refine .g 5 rfl<|.p0 rfl rfl fun x10 _=>.g 10 rfl<|?_
  refine .cd rfl (fun _ _=>?_) fun _ _=>?_
  ·refine .g 9 rfl<|.fi rfl rfl
  ·refine .g 10 rfl<|?_
   refine .cd rfl (fun _ _=>?_) fun _ _=>?_
   ·refine .g 6 rfl<|.p0 rfl rfl fun x11 _=>.g 6 rfl<|.fi rfl rfl
   ·refine .g 17 rfl<|.p0 rfl rfl fun x12 _=>.g 18 rfl<|?_
    refine .cut (fun x:Bool × (List Int)=>(r05_Floor_j1 x.1 x.2,[eP 2 1,eP 7 2],[(1,(.live 24 [(.bool false),(slK (kInt .u32) [])])),(2,(.live 24 [(.bool x.1),(slK (kInt .u32) x.2)]))])) ?_ ?_
    ·rintro ⟨y14,y15⟩
     dsimp only [r05_Floor_j1]
     refine .g 9 rfl<|.fi rfl rfl
    ·intro h14
     refine .cd rfl (fun _ _=>?_) fun _ _=>?_
     ·refine .g 6 rfl<|.p0 rfl rfl fun x16 _=>.g 5 rfl<|.jw (h14 ((x16.1).Neg,(x16.1).Mag)) [(1,1),(2,2)] rfl
     ·refine .g 1 rfl<|.jw (h14 ((x12.1).Neg,(x12.1).Mag)) [(1,1),(2,2)] rfl
instance r01_Small_i (a0:List Int):PC (r01_Small a0) Tryz.prog 179 [(slK (kInt .u32) a0)] (fun r=>(.tup [(.int .u64 r.1),(.bool r.2)])):=pc func179 (by kernel_rfl) rfl fun E=>by
 unfold r01_Small
 refine .g 9 rfl<|.p0 rfl rfl fun x4 _=>.g 7 rfl<|.ln rfl rfl<|.g 3 rfl<|?_
 refine .cd rfl (fun _ _=>?_) fun _ _=>?_
 ·refine .g 8 rfl<|.fi rfl rfl
 ·refine .g 5 rfl<|.p0 rfl rfl fun x5 _=>.g 1 rfl<|.p0 rfl rfl fun x6 _=>.g 7 rfl<|.fi rfl rfl
instance r04_Small_i (a0:ApiInt):PC (r04_Small a0) Tryz.prog 119 [(.agg (kN.enc a0))] (fun r=>(.tup [(.int .i64 r.1),(.bool r.2)])):=pc func119 (by kernel_rfl) rfl fun E=>by
 unfold r04_Small
 refine .g 13 rfl<|.p0 rfl rfl fun x5 _=>.g 8 rfl<|.p0 rfl rfl fun x6 _=>.g 10 rfl<|?_
 refine .cut (fun x:Bool=>(r04_Small_j1 x5 x6 x,[eP 4 1,eX 5 x6.1,eB 18 x],[(1,(.live 24 [(.bool ((x5).Neg)),(slK (kInt .u32) ((x5).Mag))]))])) ?_ ?_
 ·rintro y8
  dsimp only [r04_Small_j1]
  refine .g 1 rfl<|?_
  refine .cd rfl (fun _ _=>?_) fun _ _=>?_
  ·refine .g 9 rfl<|.fi rfl rfl
  ·refine .g 8 rfl<|?_
   refine .cd rfl (fun _ _=>?_) fun _ _=>?_
   ·refine .g 11 rfl<|.fi rfl rfl
   ·refine .g 7 rfl<|?_
    refine .cd rfl (fun _ _=>?_) fun _ _=>?_
    ·refine .g 9 rfl<|.fi rfl rfl
    ·refine .g 13 rfl<|.fi rfl rfl
 ·intro h24
  refine .g 4 rfl<|?_
  refine .gd 21 rfl (fun _=>?_) fun _=>?_
  ·refine .g 14 rfl<|.jw (h24 true) [(1,1)] rfl
  ·refine .g 4 rfl<|?_
   refine .gd 25 rfl (fun _=>?_) fun _=>?_
   ·refine .g 10 rfl<|.jw (h24 true) [(1,1)] rfl
   ·refine .g 3 rfl<|?_
    refine .gd 28 rfl (fun _=>?_) fun _=>?_
    ·refine .g 7 rfl<|.jw (h24 (!((x5).Neg))) [(1,1)] rfl
    ·refine .g 7 rfl<|.jw (h24 false) [(1,1)] rfl
instance r10_Turns_i (a0:AD) (a1:Int):PC (r10_Turns a0 a1) Tryz.prog 48 [(.agg (kD.enc a0)),(.int .i64 a1)] (fun r=>(.tup [(.int .i64 r.1),(.agg (kI.enc (⟨⟨(((r.2.1).Lo).M),((r.2.1).Lo).E⟩,⟨(((r.2.1).Hi).M),((r.2.1).Hi).E⟩⟩:AI))),(.int .i64 r.2.2)])):=pc func48 (by kernel_rfl) rfl fun E=>by
 unfold r10_Turns
 refine .g 13 rfl<|.p0 rfl rfl fun x21 _=>.g 3 rfl<|?_
 refine .cd rfl (fun _ _=>?_) fun _ _=>?_
 ·refine .g 10 rfl<|.fi rfl rfl
 ·refine .g 5 rfl<|.p0 rfl rfl fun x22 _=>.g 9 rfl<|?_
  refine .cut (fun x:Bool=>(r10_Turns_j1 a1 a0 x,[eI 1 a1,eP 2 0,eP 5 1,eB 31 x],[(0,(.live 26 [(.bool a0.M.Neg),(slK (kInt .u32) a0.M.Mag),(.int .i64 a0.E)])),(1,(.live 30 [(.bool false),(slK (kInt .u32) []),(.int .i64 0),(.bool false),(slK (kInt .u32) []),(.int .i64 0)]))])) ?_ ?_
  ·rintro y23
   dsimp only [r10_Turns_j1]
   refine .g 1 rfl<|?_
   refine .cd rfl (fun _ _=>?_) fun _ _=>?_
   ·refine .g 10 rfl<|.fi rfl rfl
   ·refine .g 6 rfl<|.bind fun x24 h8=>?_
    rcases x24 with x25 | x26
    ·dsimp only
     refine .st rfl (cl (r06_New_k_0 h8) [] [2] [true] rfl (.i<|.nil) .nil (fresh_cons rfl fnil) (.cons .dead .nil) .nilptr (.turned .nil) rfl) rfl<|.g 7 rfl<|.no
    ·dsimp only
     refine .st rfl (cl (r06_New_k_1 h8) [] [2] [true] rfl (.i<|.nil) .nil (fresh_cons rfl fnil) (.cons (.v (.i<|.i<|.nil)) .nil) (.ptr _ _ _ rfl) (.turned .nil) rfl) rfl<|.g 7 rfl<|.bind fun x27 h9=>.st rfl (cl (CC.h h9) [2] [] [true] rfl (.p rfl<|.nil) (.p rfl (.i<|.i<|.nil) .nil) fnil (.cons (.v (.i<|.i<|.nil)) .nil) (ren_agg (K:=kI) _) (.turned .nil) rfl) rfl<|.bind fun x28 h10=>.st rfl (cl (CC.h h10) [2] [] [true] rfl (.p rfl<|.a kI<|.i<|.nil) (.p rfl (.i<|.i<|.nil) .nil) fnil (.cons (.v (.i<|.i<|.nil)) .nil) (ren_agg (K:=kI) _) (.turned .nil) rfl) rfl<|.g 10 rfl<|.bind fun x29 h11=>.st rfl (cl (CC.h h11) [2] [] [true] rfl (.p rfl<|.a kD<|.nil) (.p rfl (.i<|.i<|.nil) .nil) fnil (.cons (.v (.i<|.i<|.nil)) .nil) (ren_agg (K:=kI) _) (.turned .nil) rfl) rfl<|.g 1 rfl<|.bind fun x30 h12=>.st rfl (cl (CC.h h12) [2] [] [true] rfl (.p rfl<|.a kI<|.a kI<|.nil) (.p rfl (.i<|.i<|.nil) .nil) fnil (.cons (.v (.i<|.i<|.nil)) .nil) (ren_agg (K:=kI) _) (.turned .nil) rfl) rfl<|.g 1 rfl<|.p0 rfl rfl fun x31 _=>?_
     refine .bind fun x32 h14=>.st rfl (cl (CC.h h14) [2] [] [true] rfl (.p rfl<|.a kD<|.nil) (.p rfl (.i<|.i<|.nil) .nil) fnil (.cons (.v (.i<|.i<|.nil)) .nil) (ren_agg (K:=kI) _) (.turned .nil) rfl) rfl<|.bind fun x33 h15=>.st rfl (cl (CC.h h15) [2] [] [true] rfl (.p rfl<|.a kI<|.a kI<|.nil) (.p rfl (.i<|.i<|.nil) .nil) fnil (.cons (.v (.i<|.i<|.nil)) .nil) (ren_agg (K:=kI) _) (.turned .nil) rfl) rfl<|.g 2 rfl<|.dn (by kernel_rfl)<|.g 11 rfl<|?_
     refine .cd rfl (fun _ _=>?_) fun _ _=>?_
     ·refine .g 10 rfl<|.dn (by kernel_rfl)<|.g 3 rfl<|.fi rfl rfl
     ·refine .g 6 rfl<|.p0 rfl rfl fun x34 _=>.g 11 rfl<|.p0 rfl rfl fun x35 _=>.g 9 rfl<|?_
      refine .cut (fun x:Bool=>(r10_Turns_j2 a0 x26 x33 x35 x28 x,[eP 2 0,eP 5 1,eP 9 2,eP 10 3,eI 14 x35.1,eB 77 x],[(0,(.live 26 [(.bool a0.M.Neg),(slK (kInt .u32) a0.M.Mag),(.int .i64 a0.E)])),(1,(.live 30 [(.bool false),(slK (kInt .u32) []),(.int .i64 0),(.bool false),(slK (kInt .u32) []),(.int .i64 0)])),(2,(.live 83 [(.int .i64 x26.1),(.int .i64 x33.2)])),(3,(.live 30 [(.bool ((((x28.1).Lo).M).Neg)),(slK (kInt .u32) ((((x28.1).Lo).M).Mag)),(.int .i64 (((x28.1).Lo).E)),(.bool ((((x28.1).Hi).M).Neg)),(slK (kInt .u32) ((((x28.1).Hi).M).Mag)),(.int .i64 (((x28.1).Hi).E))]))])) ?_ ?_
      ·rintro y36
       dsimp only [r10_Turns_j2]
       refine .g 1 rfl<|?_
       refine .cd rfl (fun _ _=>?_) fun _ _=>?_
       ·refine .g 10 rfl<|.fi rfl rfl
       ·refine .g 7 rfl<|.bind fun x37 h23=>.st rfl (cl (CC.h h23) [2] [] [true] rfl (.p rfl<|.a kD<|.nil) (.p rfl (.i<|.i<|.nil) .nil) fnil (.cons (.v (.i<|.i<|.nil)) .nil) (ren_agg (K:=kI) _) (.turned .nil) rfl) rfl<|.g 3 rfl<|.bind fun x38 h24=>.st rfl (cl (CC.h h24) [2] [] [true] rfl (.p rfl<|.i<|.nil) (.p rfl (.i<|.i<|.nil) .nil) fnil (.cons (.v (.i<|.i<|.nil)) .nil) (ren_agg (K:=kI) _) (.turned .nil) rfl) rfl<|.g 1 rfl<|.bind fun x39 h25=>.st rfl (cl (CC.h h25) [2] [] [true] rfl (.p rfl<|.a kI<|.a kI<|.nil) (.p rfl (.i<|.i<|.nil) .nil) fnil (.cons (.v (.i<|.i<|.nil)) .nil) (ren_agg (K:=kI) _) (.turned .nil) rfl) rfl<|.bind fun x40 h26=>.st rfl (cl (CC.h h26) [2] [] [true] rfl (.p rfl<|.a kI<|.a kI<|.nil) (.p rfl (.i<|.i<|.nil) .nil) fnil (.cons (.v (.i<|.i<|.nil)) .nil) (ren_agg (K:=kI) _) (.turned .nil) rfl) rfl<|.g 2 rfl<|.dn (by kernel_rfl)<|.g 11 rfl<|?_
        refine .cd rfl (fun _ _=>?_) fun _ _=>?_
        ·refine .g 10 rfl<|.dn (by kernel_rfl)<|.g 3 rfl<|.fi rfl rfl
        ·refine .g 9 rfl<|.dn (by kernel_rfl)<|.g 2 rfl<|.fi rfl rfl
      ·intro h29
       refine .g 4 rfl<|?_
       refine .gd 74 rfl (fun _=>?_) fun _=>?_
       ·refine .g 4 rfl<|.jw (h29 true) [(0,0),(1,1),(2,2),(3,3)] rfl
       ·refine .g 4 rfl<|.jw (h29 (!x35.2)) [(0,0),(1,1),(2,2),(3,3)] rfl
  ·intro h31
   refine .g 3 rfl<|?_
   refine .gd 28 rfl (fun _=>?_) fun _=>?_
   ·refine .g 4 rfl<|.jw (h31 (decide (x22.1>11))) [(0,0),(1,1)] rfl
   ·refine .g 4 rfl<|.jw (h31 false) [(0,0),(1,1)] rfl
instance r07_Sin_i (a0:AI) (a1:Int) (a2:Int):CC (r07_Sin a0 a1 a2) Tryz.prog 186 [(.ptr 0 0),(.agg (kI.enc a0))] [(.live 83 [(.int .i64 a1),(.int .i64 a2)])] (fun r=>(.agg (kI.enc (⟨⟨(((r.1).Lo).M),((r.1).Lo).E⟩,⟨(((r.1).Hi).M),((r.1).Hi).E⟩⟩:AI)))) (fun r=>[(.live 83 [(.int .i64 a1),(.int .i64 r.2)])]):=cc func186 (by kernel_rfl) rfl fun E=>by
 unfold r07_Sin
 refine .g 11 rfl<|.bind fun x133 h1=>.st rfl (cl (CC.h h1) [0] [] [true] rfl (.p rfl<|.a kI<|.i<|.nil) (.p rfl (.i<|.i<|.nil) .nil) fnil (.cons (.v (.i<|.i<|.nil)) .nil) (.bool _) (.turned .nil) rfl) rfl<|.g 3 rfl<|?_
 refine .cd rfl (fun _ _=>?_) fun _ _=>?_
 ·refine .g 8 rfl<|.fi rfl rfl
 ·refine .g 7 rfl<|.bind fun x134 h4=>.st rfl (cl (CC.h h4) [0] [] [true] rfl (.p rfl<|.a kI<|.a kI<|.nil) (.p rfl (.i<|.i<|.nil) .nil) fnil (.cons (.v (.i<|.i<|.nil)) .nil) (ren_agg (K:=kI) _) (.turned .nil) rfl) rfl<|.g 24 rfl<|?_
  refine .cut (fun x:Int × Bool × (List Int) × Int × Bool × (List Int) × Int=>(r07_Sin_j1 a1 x.1 x.2.1 x.2.2.1 x.2.2.2.1 x.2.2.2.2.1 x.2.2.2.2.2.1 x.2.2.2.2.2.2,[eP 0 0,eP 4 2,eP 6 4],[(0,(.live 83 [(.int .i64 a1),(.int .i64 x.1)])),(2,(.live 30 [(.bool false),(slK (kInt .u32) []),(.int .i64 0),(.bool false),(slK (kInt .u32) []),(.int .i64 0)])),(4,(.live 30 [(.bool x.2.1),(slK (kInt .u32) x.2.2.1),(.int .i64 x.2.2.2.1),(.bool x.2.2.2.2.1),(slK (kInt .u32) x.2.2.2.2.2.1),(.int .i64 x.2.2.2.2.2.2)]))])) ?_ ?_
  ·rintro ⟨y196,y197,y198,y199,y200,y201,y202⟩
   dsimp only [r07_Sin_j1]
   refine .g 5 rfl<|.bind fun x203 h44=>.st rfl (cl (CC.h h44) [0] [] [true] rfl (.p rfl<|.a kI<|.nil) (.p rfl (.i<|.i<|.nil) .nil) fnil (.cons (.v (.i<|.i<|.nil)) .nil) (ren_agg (K:=kI) _) (.turned .nil) rfl) rfl<|.g 4 rfl<|.fi rfl rfl
  ·intro h45
   refine .g 1 rfl<|?_
   refine .lp (fun n (x:Int × Int × Bool × (List Int) × Int × Bool × (List Int) × Int × Bool × (List Int) × Int × Bool × (List Int) × Int)=>r07_Sin_l2 a1 x134 n x.1 x.2.1 x.2.2.1 x.2.2.2.1 x.2.2.2.2.1 x.2.2.2.2.2.1 x.2.2.2.2.2.2.1 x.2.2.2.2.2.2.2.1 x.2.2.2.2.2.2.2.2.1 x.2.2.2.2.2.2.2.2.2.1 x.2.2.2.2.2.2.2.2.2.2.1 x.2.2.2.2.2.2.2.2.2.2.2.1 x.2.2.2.2.2.2.2.2.2.2.2.2.1 x.2.2.2.2.2.2.2.2.2.2.2.2.2) (fun x=>([eP 0 0,eP 4 2,eP 5 3,eP 6 4,eP 7 5,eI 8 x.1],[(0,(.live 83 [(.int .i64 a1),(.int .i64 x.2.1)])),(2,(.live 30 [(.bool false),(slK (kInt .u32) []),(.int .i64 0),(.bool false),(slK (kInt .u32) []),(.int .i64 0)])),(3,(.live 30 [(.bool ((((x134.1).Lo).M).Neg)),(slK (kInt .u32) ((((x134.1).Lo).M).Mag)),(.int .i64 (((x134.1).Lo).E)),(.bool ((((x134.1).Hi).M).Neg)),(slK (kInt .u32) ((((x134.1).Hi).M).Mag)),(.int .i64 (((x134.1).Hi).E))])),(4,(.live 30 [(.bool x.2.2.1),(slK (kInt .u32) x.2.2.2.1),(.int .i64 x.2.2.2.2.1),(.bool x.2.2.2.2.2.1),(slK (kInt .u32) x.2.2.2.2.2.2.1),(.int .i64 x.2.2.2.2.2.2.2.1)])),(5,(.live 30 [(.bool x.2.2.2.2.2.2.2.2.1),(slK (kInt .u32) x.2.2.2.2.2.2.2.2.2.1),(.int .i64 x.2.2.2.2.2.2.2.2.2.2.1),(.bool x.2.2.2.2.2.2.2.2.2.2.2.1),(slK (kInt .u32) x.2.2.2.2.2.2.2.2.2.2.2.2.1),(.int .i64 x.2.2.2.2.2.2.2.2.2.2.2.2.2)]))])) (1,x134.2,a0.Lo.M.Neg,a0.Lo.M.Mag,a0.Lo.E,a0.Hi.M.Neg,a0.Hi.M.Mag,a0.Hi.E,a0.Lo.M.Neg,a0.Lo.M.Mag,a0.Lo.E,a0.Hi.M.Neg,a0.Hi.M.Mag,a0.Hi.E) [(0,0),(2,2),(3,3),(4,4),(5,5)] rfl ?_
   rintro n2 ⟨y240,y241,y242,y243,y244,y245,y246,y247,y248,y249,y250,y251,y252,y253⟩
   try dsimp only
   rw [r07_Sin_l2]
   refine .g 8 rfl<|.p0 rfl rfl fun x254 _=>.g 3 rfl<|?_
   refine .cd rfl (fun _ _=>?_) fun _ _=>?_
   ·refine .g 11 rfl<|.bind fun x260 h80=>.st rfl (cl (CC.h h80) [0] [] [true] rfl (.p rfl<|.a kI<|.a kI<|.nil) (.p rfl (.i<|.i<|.nil) .nil) fnil (.cons (.v (.i<|.i<|.nil)) .nil) (ren_agg (K:=kI) _) (.turned .nil) rfl) rfl<|.g 7 rfl<|.bind fun x261 h81=>.st rfl (cl (CC.h h81) [0] [] [true] rfl (.p rfl<|.i<|.nil) (.p rfl (.i<|.i<|.nil) .nil) fnil (.cons (.v (.i<|.i<|.nil)) .nil) (ren_agg (K:=kI) _) (.turned .nil) rfl) rfl<|.bind fun x262 h82=>.st rfl (cl (CC.h h82) [0] [] [true] rfl (.p rfl<|.a kI<|.a kI<|.nil) (.p rfl (.i<|.i<|.nil) .nil) fnil (.cons (.v (.i<|.i<|.nil)) .nil) (ren_agg (K:=kI) _) (.turned .nil) rfl) rfl<|.bind fun x263 h83=>.st rfl (cl (CC.h h83) [0] [] [true] rfl (.p rfl<|.a kI<|.nil) (.p rfl (.i<|.i<|.nil) .nil) fnil (.cons (.v (.i<|.i<|.nil)) .nil) (ren_agg (K:=kI) _) (.turned .nil) rfl) rfl<|.g 7 rfl<|.bind fun x264 h84=>.st rfl (cl (CC.h h84) [0] [] [true] rfl (.p rfl<|.a kI<|.a kI<|.nil) (.p rfl (.i<|.i<|.nil) .nil) fnil (.cons (.v (.i<|.i<|.nil)) .nil) (ren_agg (K:=kI) _) (.turned .nil) rfl) rfl<|.g 9 rfl<|.ag ((IntKind.i64.wrap (y240+1)),x264.2,(((x264.1).Lo).M).Neg,(((x264.1).Lo).M).Mag,((x264.1).Lo).E,(((x264.1).Hi).M).Neg,(((x264.1).Hi).M).Mag,((x264.1).Hi).E,(((x263.1).Lo).M).Neg,(((x263.1).Lo).M).Mag,((x263.1).Lo).E,(((x263.1).Hi).M).Neg,(((x263.1).Hi).M).Mag,((x263.1).Hi).E) [(0,0),(2,2),(3,3),(4,4),(5,5)] rfl
   ·refine .g 4 rfl<|.jw (h45 (y241,y242,y243,y244,y245,y246,y247)) [(0,0),(2,2),(4,4)] rfl
instance r07_Cos_i (a0:AI) (a1:Int) (a2:Int):CC (r07_Cos a0 a1 a2) Tryz.prog 187 [(.ptr 0 0),(.agg (kI.enc a0))] [(.live 83 [(.int .i64 a1),(.int .i64 a2)])] (fun r=>(.agg (kI.enc (⟨⟨(((r.1).Lo).M),((r.1).Lo).E⟩,⟨(((r.1).Hi).M),((r.1).Hi).E⟩⟩:AI)))) (fun r=>[(.live 83 [(.int .i64 a1),(.int .i64 r.2)])]):=cc func187 (by kernel_rfl) rfl fun E=>by
 unfold r07_Cos
 refine .g 11 rfl<|.bind fun x135 h1=>.st rfl (cl (CC.h h1) [0] [] [true] rfl (.p rfl<|.a kI<|.i<|.nil) (.p rfl (.i<|.i<|.nil) .nil) fnil (.cons (.v (.i<|.i<|.nil)) .nil) (.bool _) (.turned .nil) rfl) rfl<|.g 3 rfl<|?_
 refine .cd rfl (fun _ _=>?_) fun _ _=>?_
 ·refine .g 8 rfl<|.fi rfl rfl
 ·refine .g 7 rfl<|.bind fun x136 h4=>.st rfl (cl (CC.h h4) [0] [] [true] rfl (.p rfl<|.a kI<|.a kI<|.nil) (.p rfl (.i<|.i<|.nil) .nil) fnil (.cons (.v (.i<|.i<|.nil)) .nil) (ren_agg (K:=kI) _) (.turned .nil) rfl) rfl<|.g 7 rfl<|.bind fun x137 h5=>.st rfl (cl (CC.h h5) [0] [] [true] rfl (.p rfl<|.i<|.nil) (.p rfl (.i<|.i<|.nil) .nil) fnil (.cons (.v (.i<|.i<|.nil)) .nil) (ren_agg (K:=kI) _) (.turned .nil) rfl) rfl<|.g 7 rfl<|.bind fun x138 h6=>.st rfl (cl (CC.h h6) [0] [] [true] rfl (.p rfl<|.i<|.nil) (.p rfl (.i<|.i<|.nil) .nil) fnil (.cons (.v (.i<|.i<|.nil)) .nil) (ren_agg (K:=kI) _) (.turned .nil) rfl) rfl<|.g 10 rfl<|?_
  refine .cut (fun x:Int × Bool × (List Int) × Int × Bool × (List Int) × Int=>(r07_Cos_j1 a1 x.1 x.2.1 x.2.2.1 x.2.2.2.1 x.2.2.2.2.1 x.2.2.2.2.2.1 x.2.2.2.2.2.2,[eP 0 0,eP 4 2,eP 6 4],[(0,(.live 83 [(.int .i64 a1),(.int .i64 x.1)])),(2,(.live 30 [(.bool false),(slK (kInt .u32) []),(.int .i64 0),(.bool false),(slK (kInt .u32) []),(.int .i64 0)])),(4,(.live 30 [(.bool x.2.1),(slK (kInt .u32) x.2.2.1),(.int .i64 x.2.2.2.1),(.bool x.2.2.2.2.1),(slK (kInt .u32) x.2.2.2.2.2.1),(.int .i64 x.2.2.2.2.2.2)]))])) ?_ ?_
  ·rintro ⟨y200,y201,y202,y203,y204,y205,y206⟩
   dsimp only [r07_Cos_j1]
   refine .g 5 rfl<|.bind fun x207 h46=>.st rfl (cl (CC.h h46) [0] [] [true] rfl (.p rfl<|.a kI<|.nil) (.p rfl (.i<|.i<|.nil) .nil) fnil (.cons (.v (.i<|.i<|.nil)) .nil) (ren_agg (K:=kI) _) (.turned .nil) rfl) rfl<|.g 4 rfl<|.fi rfl rfl
  ·intro h47
   refine .g 1 rfl<|?_
   refine .lp (fun n (x:Int × Int × Bool × (List Int) × Int × Bool × (List Int) × Int × Bool × (List Int) × Int × Bool × (List Int) × Int)=>r07_Cos_l2 a1 x136 n x.1 x.2.1 x.2.2.1 x.2.2.2.1 x.2.2.2.2.1 x.2.2.2.2.2.1 x.2.2.2.2.2.2.1 x.2.2.2.2.2.2.2.1 x.2.2.2.2.2.2.2.2.1 x.2.2.2.2.2.2.2.2.2.1 x.2.2.2.2.2.2.2.2.2.2.1 x.2.2.2.2.2.2.2.2.2.2.2.1 x.2.2.2.2.2.2.2.2.2.2.2.2.1 x.2.2.2.2.2.2.2.2.2.2.2.2.2) (fun x=>([eP 0 0,eP 4 2,eP 5 3,eP 6 4,eP 7 5,eI 8 x.1],[(0,(.live 83 [(.int .i64 a1),(.int .i64 x.2.1)])),(2,(.live 30 [(.bool false),(slK (kInt .u32) []),(.int .i64 0),(.bool false),(slK (kInt .u32) []),(.int .i64 0)])),(3,(.live 30 [(.bool ((((x136.1).Lo).M).Neg)),(slK (kInt .u32) ((((x136.1).Lo).M).Mag)),(.int .i64 (((x136.1).Lo).E)),(.bool ((((x136.1).Hi).M).Neg)),(slK (kInt .u32) ((((x136.1).Hi).M).Mag)),(.int .i64 (((x136.1).Hi).E))])),(4,(.live 30 [(.bool x.2.2.1),(slK (kInt .u32) x.2.2.2.1),(.int .i64 x.2.2.2.2.1),(.bool x.2.2.2.2.2.1),(slK (kInt .u32) x.2.2.2.2.2.2.1),(.int .i64 x.2.2.2.2.2.2.2.1)])),(5,(.live 30 [(.bool x.2.2.2.2.2.2.2.2.1),(slK (kInt .u32) x.2.2.2.2.2.2.2.2.2.1),(.int .i64 x.2.2.2.2.2.2.2.2.2.2.1),(.bool x.2.2.2.2.2.2.2.2.2.2.2.1),(slK (kInt .u32) x.2.2.2.2.2.2.2.2.2.2.2.2.1),(.int .i64 x.2.2.2.2.2.2.2.2.2.2.2.2.2)]))])) (1,x138.2,(((x137.1).Lo).M).Neg,(((x137.1).Lo).M).Mag,((x137.1).Lo).E,(((x137.1).Hi).M).Neg,(((x137.1).Hi).M).Mag,((x137.1).Hi).E,(((x138.1).Lo).M).Neg,(((x138.1).Lo).M).Mag,((x138.1).Lo).E,(((x138.1).Hi).M).Neg,(((x138.1).Hi).M).Mag,((x138.1).Hi).E) [(0,0),(2,2),(3,3),(4,4),(5,5)] rfl ?_
   rintro n2 ⟨y244,y245,y246,y247,y248,y249,y250,y251,y252,y253,y254,y255,y256,y257⟩
   try dsimp only
   rw [r07_Cos_l2]
   refine .g 8 rfl<|.p0 rfl rfl fun x258 _=>.g 3 rfl<|?_
   refine .cd rfl (fun _ _=>?_) fun _ _=>?_
   ·refine .g 11 rfl<|.bind fun x264 h82=>.st rfl (cl (CC.h h82) [0] [] [true] rfl (.p rfl<|.a kI<|.a kI<|.nil) (.p rfl (.i<|.i<|.nil) .nil) fnil (.cons (.v (.i<|.i<|.nil)) .nil) (ren_agg (K:=kI) _) (.turned .nil) rfl) rfl<|.g 7 rfl<|.bind fun x265 h83=>.st rfl (cl (CC.h h83) [0] [] [true] rfl (.p rfl<|.i<|.nil) (.p rfl (.i<|.i<|.nil) .nil) fnil (.cons (.v (.i<|.i<|.nil)) .nil) (ren_agg (K:=kI) _) (.turned .nil) rfl) rfl<|.bind fun x266 h84=>.st rfl (cl (CC.h h84) [0] [] [true] rfl (.p rfl<|.a kI<|.a kI<|.nil) (.p rfl (.i<|.i<|.nil) .nil) fnil (.cons (.v (.i<|.i<|.nil)) .nil) (ren_agg (K:=kI) _) (.turned .nil) rfl) rfl<|.bind fun x267 h85=>.st rfl (cl (CC.h h85) [0] [] [true] rfl (.p rfl<|.a kI<|.nil) (.p rfl (.i<|.i<|.nil) .nil) fnil (.cons (.v (.i<|.i<|.nil)) .nil) (ren_agg (K:=kI) _) (.turned .nil) rfl) rfl<|.g 7 rfl<|.bind fun x268 h86=>.st rfl (cl (CC.h h86) [0] [] [true] rfl (.p rfl<|.a kI<|.a kI<|.nil) (.p rfl (.i<|.i<|.nil) .nil) fnil (.cons (.v (.i<|.i<|.nil)) .nil) (ren_agg (K:=kI) _) (.turned .nil) rfl) rfl<|.g 9 rfl<|.ag ((IntKind.i64.wrap (y244+1)),x268.2,(((x268.1).Lo).M).Neg,(((x268.1).Lo).M).Mag,((x268.1).Lo).E,(((x268.1).Hi).M).Neg,(((x268.1).Hi).M).Mag,((x268.1).Hi).E,(((x267.1).Lo).M).Neg,(((x267.1).Lo).M).Mag,((x267.1).Lo).E,(((x267.1).Hi).M).Neg,(((x267.1).Hi).M).Mag,((x267.1).Hi).E) [(0,0),(2,2),(3,3),(4,4),(5,5)] rfl
   ·refine .g 4 rfl<|.jw (h47 (y245,y246,y247,y248,y249,y250,y251)) [(0,0),(2,2),(4,4)] rfl
instance r06_COut_i (a0:AI) (a1:Int) (a2:Int):CC (r06_COut a0 a1 a2) Tryz.prog 146 [(.ptr 0 0),(.agg (kI.enc a0))] [(.live 83 [(.int .i64 a1),(.int .i64 a2)])] (fun r=>(.agg (kI.enc (⟨⟨(((r.1).Lo).M),((r.1).Lo).E⟩,⟨(((r.1).Hi).M),((r.1).Hi).E⟩⟩:AI)))) (fun r=>[(.live 83 [(.int .i64 a1),(.int .i64 r.2)])]):=cc func146 (by kernel_rfl) rfl fun E=>by
 unfold r06_COut
 refine .g 11 rfl<|.st rfl (bs kI [a0] rfl rfl) rfl<|.bind fun x5 h1=>.st rfl (cl (CC.h h1) [0] [] [true] rfl (.p rfl<|.l<|.nil) (.p rfl (.i<|.i<|.nil) .nil) fnil (.cons (.v (.i<|.i<|.nil)) .nil) (.bool _) (.turned .nil) rfl) rfl<|.g 3 rfl<|?_
 refine .cd rfl (fun _ _=>?_) fun _ _=>?_
 ·refine .g 8 rfl<|.fi rfl rfl
 ·refine .g 7 rfl<|.bind fun x6 h4=>.st rfl (cl (CC.h h4) [0] [] [true] rfl (.p rfl<|.a kD<|.b<|.nil) (.p rfl (.i<|.i<|.nil) .nil) fnil (.cons (.v (.i<|.i<|.nil)) .nil) (ren_agg (K:=kD) _) (.turned .nil) rfl) rfl<|.g 9 rfl<|.bind fun x7 h5=>.st rfl (cl (CC.h h5) [0] [] [true] rfl (.p rfl<|.a kD<|.b<|.nil) (.p rfl (.i<|.i<|.nil) .nil) fnil (.cons (.v (.i<|.i<|.nil)) .nil) (ren_agg (K:=kD) _) (.turned .nil) rfl) rfl<|.g 9 rfl<|.bind fun x8 h6=>.st rfl (cl (CC.h h6) [0] [] [false] rfl (.p rfl<|.a kD<|.a kD<|.nil) (.p rfl (.i<|.i<|.nil) .nil) fnil (.cons (.v (.i<|.i<|.nil)) .nil) (ren_agg (K:=kI) _) (.kept rfl .nil) rfl) rfl<|.g 4 rfl<|.fi rfl rfl
instance r09_Ends_i (a0:AI) (a1:Int) (a2:Int) (a3:Int):CC (r09_Ends a0 a1 a2 a3) Tryz.prog 74 [(.ptr 0 0),(.agg (kI.enc a0)),(.int .i64 a1)] [(.live 83 [(.int .i64 a2),(.int .i64 a3)])] (fun r=>(.tup [(.agg (kI.enc (⟨⟨(((r.1).Lo).M),((r.1).Lo).E⟩,⟨(((r.1).Hi).M),((r.1).Hi).E⟩⟩:AI))),(.int .i64 r.2)])) (fun r=>[(.live 83 [(.int .i64 a2),(.int .i64 a3)])]):=cc func74 (by kernel_rfl) rfl fun E=>by
 unfold r09_Ends
 refine .g 17 rfl<|?_
 refine .cd rfl (fun _ _=>?_) fun _ _=>?_
 ·refine .g 9 rfl<|.dn (by kernel_rfl)<|.g 3 rfl<|.fi rfl rfl
 ·refine .g 5 rfl<|.bind fun x5 h3=>?_
  rcases x5 with x6 | x7
  ·dsimp only
   refine .st rfl (cl (r06_New_k_0 h3) [] [3] [true] rfl (.i<|.nil) .nil (fresh_cons rfl fnil) (.cons .dead .nil) .nilptr (.turned .nil) rfl) rfl<|.g 7 rfl<|.no
  ·dsimp only
   refine .st rfl (cl (r06_New_k_1 h3) [] [3] [true] rfl (.i<|.nil) .nil (fresh_cons rfl fnil) (.cons (.v (.i<|.i<|.nil)) .nil) (.ptr _ _ _ rfl) (.turned .nil) rfl) rfl<|.g 7 rfl<|.bind fun x8 h4=>.st rfl (cl (CC.h h4) [3] [] [true] rfl (.p rfl<|.a kI<|.nil) (.p rfl (.i<|.i<|.nil) .nil) fnil (.cons (.v (.i<|.i<|.nil)) .nil) (ren_agg (K:=kI) _) (.turned .nil) rfl) rfl<|.g 13 rfl<|.dn (by kernel_rfl)<|.g 2 rfl<|.fi rfl rfl
instance r10_quarter_i (a0:Int) (a1:AI) (a2:Int):PC (r10_quarter a0 a1 a2) Tryz.prog 121 [(.int .i64 a0),(.agg (kI.enc a1)),(.int .i64 a2)] (fun r=>(.tup [(.agg (kI.enc (⟨⟨(((r.1).Lo).M),((r.1).Lo).E⟩,⟨(((r.1).Hi).M),((r.1).Hi).E⟩⟩:AI))),(.int .i64 r.2)])):=pc func121 (by kernel_rfl) rfl fun E=>by
 unfold r10_quarter
 refine .g 11 rfl<|.bind fun x25 h1=>?_
 rcases x25 with x26 | x27
 ·dsimp only
  refine .st rfl (cl (r06_New_k_0 h1) [] [2] [true] rfl (.i<|.nil) .nil (fresh_cons rfl fnil) (.cons .dead .nil) .nilptr (.turned .nil) rfl) rfl<|.g 16 rfl<|?_
  refine .cd rfl (fun _ _=>?_) fun _ _=>?_
  ·refine .g 3 rfl<|.no
  ·refine .g 3 rfl<|.no
 ·dsimp only
  refine .st rfl (cl (r06_New_k_1 h1) [] [2] [true] rfl (.i<|.nil) .nil (fresh_cons rfl fnil) (.cons (.v (.i<|.i<|.nil)) .nil) (.ptr _ _ _ rfl) (.turned .nil) rfl) rfl<|.g 16 rfl<|?_
  refine .cut (fun x:Int × Bool × (List Int) × Int × Bool × (List Int) × Int=>(r10_quarter_j1 a0 x27 a2 x.1 x.2.1 x.2.2.1 x.2.2.2.1 x.2.2.2.2.1 x.2.2.2.2.2.1 x.2.2.2.2.2.2,[eI 0 a0,eI 2 a2,eP 6 1,eP 8 2,eP 9 3],[(1,(.live 30 [(.bool false),(slK (kInt .u32) []),(.int .i64 0),(.bool false),(slK (kInt .u32) []),(.int .i64 0)])),(2,(.live 83 [(.int .i64 x27.1),(.int .i64 x.1)])),(3,(.live 30 [(.bool x.2.1),(slK (kInt .u32) x.2.2.1),(.int .i64 x.2.2.2.1),(.bool x.2.2.2.2.1),(slK (kInt .u32) x.2.2.2.2.2.1),(.int .i64 x.2.2.2.2.2.2)]))])) ?_ ?_
  ·rintro ⟨y30,y31,y32,y33,y34,y35,y36⟩
   dsimp only [r10_quarter_j1]
   refine .g 9 rfl<|?_
   refine .cut (fun x:Int × Bool × (List Int) × Int × Bool × (List Int) × Int=>(r10_quarter_j2 a2 x27 x.1 x.2.1 x.2.2.1 x.2.2.2.1 x.2.2.2.2.1 x.2.2.2.2.2.1 x.2.2.2.2.2.2,[eI 2 a2,eP 6 1,eP 8 2,eP 9 3],[(1,(.live 30 [(.bool false),(slK (kInt .u32) []),(.int .i64 0),(.bool false),(slK (kInt .u32) []),(.int .i64 0)])),(2,(.live 83 [(.int .i64 x27.1),(.int .i64 x.1)])),(3,(.live 30 [(.bool x.2.1),(slK (kInt .u32) x.2.2.1),(.int .i64 x.2.2.2.1),(.bool x.2.2.2.2.1),(slK (kInt .u32) x.2.2.2.2.2.1),(.int .i64 x.2.2.2.2.2.2)]))])) ?_ ?_
   ·rintro ⟨y38,y39,y40,y41,y42,y43,y44⟩
    dsimp only [r10_quarter_j2]
    refine .g 6 rfl<|.bind fun x45 h13=>.st rfl (cl (CC.h h13) [2] [] [false] rfl (.p rfl<|.a kI<|.i<|.nil) (.p rfl (.i<|.i<|.nil) .nil) fnil (.cons (.v (.i<|.i<|.nil)) .nil) (ren_tupL (.a kI<|.i<|.nil)) (.kept rfl .nil) rfl) rfl<|.g 7 rfl<|.fi rfl rfl
   ·intro h14
    refine .cd rfl (fun _ _=>?_) fun _ _=>?_
    ·refine .g 3 rfl<|.bind fun x46 h17=>.st rfl (cl (CC.h h17) [2] [] [true] rfl (.p rfl<|.a kI<|.nil) (.p rfl (.i<|.i<|.nil) .nil) fnil (.cons (.v (.i<|.i<|.nil)) .nil) (ren_agg (K:=kI) _) (.turned .nil) rfl) rfl<|.g 2 rfl<|.jw (h14 (x46.2,(((x46.1).Lo).M).Neg,(((x46.1).Lo).M).Mag,((x46.1).Lo).E,(((x46.1).Hi).M).Neg,(((x46.1).Hi).M).Mag,((x46.1).Hi).E)) [(1,1),(2,2),(3,3)] rfl
    ·refine .g 1 rfl<|.jw (h14 (y30,y31,y32,y33,y34,y35,y36)) [(1,1),(2,2),(3,3)] rfl
  ·intro h18
   refine .cd rfl (fun _ _=>?_) fun _ _=>?_
   ·refine .g 3 rfl<|.bind fun x47 h21=>.st rfl (cl (CC.h h21) [2] [] [true] rfl (.p rfl<|.a kI<|.nil) (.p rfl (.i<|.i<|.nil) .nil) fnil (.cons (.v (.i<|.i<|.nil)) .nil) (ren_agg (K:=kI) _) (.turned .nil) rfl) rfl<|.g 2 rfl<|.jw (h18 (x47.2,(((x47.1).Lo).M).Neg,(((x47.1).Lo).M).Mag,((x47.1).Lo).E,(((x47.1).Hi).M).Neg,(((x47.1).Hi).M).Mag,((x47.1).Hi).E)) [(1,1),(2,2),(3,3)] rfl
   ·refine .g 3 rfl<|.bind fun x48 h22=>.st rfl (cl (CC.h h22) [2] [] [true] rfl (.p rfl<|.a kI<|.nil) (.p rfl (.i<|.i<|.nil) .nil) fnil (.cons (.v (.i<|.i<|.nil)) .nil) (ren_agg (K:=kI) _) (.turned .nil) rfl) rfl<|.g 2 rfl<|.jw (h18 (x48.2,(((x48.1).Lo).M).Neg,(((x48.1).Lo).M).Mag,((x48.1).Lo).E,(((x48.1).Hi).M).Neg,(((x48.1).Hi).M).Mag,((x48.1).Hi).E)) [(1,1),(2,2),(3,3)] rfl
instance r10_Sin_i (a0:AD) (a1:Int):PC (r10_Sin a0 a1) Tryz.prog 51 [(.agg (kD.enc a0)),(.int .i64 a1)] (fun r=>(.tup [(.agg (kI.enc (⟨⟨(((r.1).Lo).M),((r.1).Lo).E⟩,⟨(((r.1).Hi).M),((r.1).Hi).E⟩⟩:AI))),(.int .i64 r.2)])):=pc func51 (by kernel_rfl) rfl fun E=>by
 unfold r10_Sin
 refine .g 11 rfl<|.p0 rfl rfl fun x3 _=>.g 17 rfl<|?_
 refine .cd rfl (fun _ _=>?_) fun _ _=>?_
 ·refine .g 10 rfl<|.fi rfl rfl
 ·refine .g 7 rfl<|.p0 rfl rfl fun x4 _=>.g 7 rfl<|.fi rfl rfl
instance r10_Cos_i (a0:AD) (a1:Int):PC (r10_Cos a0 a1) Tryz.prog 53 [(.agg (kD.enc a0)),(.int .i64 a1)] (fun r=>(.tup [(.agg (kI.enc (⟨⟨(((r.1).Lo).M),((r.1).Lo).E⟩,⟨(((r.1).Hi).M),((r.1).Hi).E⟩⟩:AI))),(.int .i64 r.2)])):=pc func53 (by kernel_rfl) rfl fun E=>by
 unfold r10_Cos
 refine .g 11 rfl<|.p0 rfl rfl fun x3 _=>.g 17 rfl<|?_
 refine .cd rfl (fun _ _=>?_) fun _ _=>?_
 ·refine .g 10 rfl<|.fi rfl rfl
 ·refine .g 8 rfl<|.p0 rfl rfl fun x4 _=>.g 7 rfl<|.fi rfl rfl
end Go.Proofs.YtjfcghliglfapaaGreat.Gen
