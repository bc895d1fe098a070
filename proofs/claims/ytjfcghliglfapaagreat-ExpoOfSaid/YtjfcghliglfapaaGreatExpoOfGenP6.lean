/- Printed by geng.py: a call does what the plain function says. -/
import Derived.Test.YtjfcghliglfapaaGreatExpoOfGenP5
set_option maxRecDepth 4000
namespace Go.Proofs.YtjfcghliglfapaaGreat.Gen
open Go Go.Abs Go.Proofs Go.Proofs.Tryz
instance r06_CNeg_i (a0:AI) (a1:Int) (a2:Int):CC (r06_CNeg a0 a1 a2) Tryz.prog 157 [(.ptr 0 0),(.agg (kI.enc a0))] [(.live 83 [(.int .i64 a1),(.int .i64 a2)])] (fun r=>(.agg (kI.enc (⟨⟨(((r.1).Lo).M),((r.1).Lo).E⟩,⟨(((r.1).Hi).M),((r.1).Hi).E⟩⟩:AI)))) (fun r=>[(.live 83 [(.int .i64 a1),(.int .i64 r.2)])]):=cc func157 (by kernel_rfl) rfl fun E=>by
 unfold r06_CNeg
 refine .g 11 rfl<|.st rfl (bs kI [a0] rfl rfl) rfl<|.bind fun x4 h1=>.st rfl (cl (CC.h h1) [0] [] [true] rfl (.p rfl<|.l<|.nil) (.p rfl (.i<|.i<|.nil) .nil) fnil (.cons (.v (.i<|.i<|.nil)) .nil) (.bool _) (.turned .nil) rfl) rfl<|.g 3 rfl<|?_
 refine .cd rfl (fun _ _=>?_) fun _ _=>?_
 ·refine .g 8 rfl<|.fi rfl rfl
 ·refine .g 6 rfl<|.p0 rfl rfl fun x5 _=>.g 2 rfl<|.p0 rfl rfl fun x6 _=>.g 2 rfl<|.dn (by kernel_rfl)<|.g 2 rfl<|.fi rfl rfl
instance r06_CSub_i (a0:AI) (a1:AI) (a2:Int) (a3:Int):CC (r06_CSub a0 a1 a2 a3) Tryz.prog 82 [(.ptr 0 0),(.agg (kI.enc a0)),(.agg (kI.enc a1))] [(.live 83 [(.int .i64 a2),(.int .i64 a3)])] (fun r=>(.agg (kI.enc (⟨⟨(((r.1).Lo).M),((r.1).Lo).E⟩,⟨(((r.1).Hi).M),((r.1).Hi).E⟩⟩:AI)))) (fun r=>[(.live 83 [(.int .i64 a2),(.int .i64 r.2)])]):=cc func82 (by kernel_rfl) rfl fun E=>by
 unfold r06_CSub
 refine .g 13 rfl<|.st rfl (bs kI [a0,a1] rfl rfl) rfl<|.bind fun x4 h1=>.st rfl (cl (CC.h h1) [0] [] [true] rfl (.p rfl<|.l<|.nil) (.p rfl (.i<|.i<|.nil) .nil) fnil (.cons (.v (.i<|.i<|.nil)) .nil) (.bool _) (.turned .nil) rfl) rfl<|.g 3 rfl<|?_
 refine .cd rfl (fun _ _=>?_) fun _ _=>?_
 ·refine .g 8 rfl<|.fi rfl rfl
 ·refine .g 8 rfl<|.bind fun x5 h4=>.st rfl (cl (CC.h h4) [0] [] [true] rfl (.p rfl<|.a kI<|.nil) (.p rfl (.i<|.i<|.nil) .nil) fnil (.cons (.v (.i<|.i<|.nil)) .nil) (ren_agg (K:=kI) _) (.turned .nil) rfl) rfl<|.bind fun x6 h5=>.st rfl (cl (CC.h h5) [0] [] [true] rfl (.p rfl<|.a kI<|.a kI<|.nil) (.p rfl (.i<|.i<|.nil) .nil) fnil (.cons (.v (.i<|.i<|.nil)) .nil) (ren_agg (K:=kI) _) (.turned .nil) rfl) rfl<|.g 1 rfl<|.dn (by kernel_rfl)<|.g 2 rfl<|.fi rfl rfl
instance r07_Atanh_i (a0:AI) (a1:Int) (a2:Int):CC (r07_Atanh a0 a1 a2) Tryz.prog 85 [(.ptr 0 0),(.agg (kI.enc a0))] [(.live 83 [(.int .i64 a1),(.int .i64 a2)])] (fun r=>(.agg (kI.enc (⟨⟨(((r.1).Lo).M),((r.1).Lo).E⟩,⟨(((r.1).Hi).M),((r.1).Hi).E⟩⟩:AI)))) (fun r=>[(.live 83 [(.int .i64 a1),(.int .i64 r.2)])]):=cc func85 (by kernel_rfl) rfl fun E=>by
 unfold r07_Atanh
 refine .g 11 rfl<|.bind fun x121 h1=>.st rfl (cl (CC.h h1) [0] [] [true] rfl (.p rfl<|.a kI<|.i<|.nil) (.p rfl (.i<|.i<|.nil) .nil) fnil (.cons (.v (.i<|.i<|.nil)) .nil) (.bool _) (.turned .nil) rfl) rfl<|.g 3 rfl<|?_
 refine .cd rfl (fun _ _=>?_) fun _ _=>?_
 ·refine .g 8 rfl<|.fi rfl rfl
 ·refine .g 7 rfl<|.bind fun x122 h4=>.st rfl (cl (CC.h h4) [0] [] [true] rfl (.p rfl<|.a kI<|.a kI<|.nil) (.p rfl (.i<|.i<|.nil) .nil) fnil (.cons (.v (.i<|.i<|.nil)) .nil) (ren_agg (K:=kI) _) (.turned .nil) rfl) rfl<|.g 24 rfl<|?_
  refine .cut (fun x:Int × Bool × (List Int) × Int × Bool × (List Int) × Int=>(r07_Atanh_j1 a1 x.1 x.2.1 x.2.2.1 x.2.2.2.1 x.2.2.2.2.1 x.2.2.2.2.2.1 x.2.2.2.2.2.2,[eP 0 0,eP 4 2,eP 6 4],[(0,(.live 83 [(.int .i64 a1),(.int .i64 x.1)])),(2,(.live 30 [(.bool false),(slK (kInt .u32) []),(.int .i64 0),(.bool false),(slK (kInt .u32) []),(.int .i64 0)])),(4,(.live 30 [(.bool x.2.1),(slK (kInt .u32) x.2.2.1),(.int .i64 x.2.2.2.1),(.bool x.2.2.2.2.1),(slK (kInt .u32) x.2.2.2.2.2.1),(.int .i64 x.2.2.2.2.2.2)]))])) ?_ ?_
  ·rintro ⟨y178,y179,y180,y181,y182,y183,y184⟩
   dsimp only [r07_Atanh_j1]
   refine .g 5 rfl<|.bind fun x185 h38=>.st rfl (cl (CC.h h38) [0] [] [true] rfl (.p rfl<|.a kI<|.nil) (.p rfl (.i<|.i<|.nil) .nil) fnil (.cons (.v (.i<|.i<|.nil)) .nil) (ren_agg (K:=kI) _) (.turned .nil) rfl) rfl<|.g 4 rfl<|.fi rfl rfl
  ·intro h39
   refine .g 1 rfl<|?_
   refine .lp (fun n (x:Int × Int × Bool × (List Int) × Int × Bool × (List Int) × Int × Bool × (List Int) × Int × Bool × (List Int) × Int)=>r07_Atanh_l2 a1 x122 n x.1 x.2.1 x.2.2.1 x.2.2.2.1 x.2.2.2.2.1 x.2.2.2.2.2.1 x.2.2.2.2.2.2.1 x.2.2.2.2.2.2.2.1 x.2.2.2.2.2.2.2.2.1 x.2.2.2.2.2.2.2.2.2.1 x.2.2.2.2.2.2.2.2.2.2.1 x.2.2.2.2.2.2.2.2.2.2.2.1 x.2.2.2.2.2.2.2.2.2.2.2.2.1 x.2.2.2.2.2.2.2.2.2.2.2.2.2) (fun x=>([eP 0 0,eP 4 2,eP 5 3,eP 6 4,eP 7 5,eI 8 x.1],[(0,(.live 83 [(.int .i64 a1),(.int .i64 x.2.1)])),(2,(.live 30 [(.bool false),(slK (kInt .u32) []),(.int .i64 0),(.bool false),(slK (kInt .u32) []),(.int .i64 0)])),(3,(.live 30 [(.bool ((((x122.1).Lo).M).Neg)),(slK (kInt .u32) ((((x122.1).Lo).M).Mag)),(.int .i64 (((x122.1).Lo).E)),(.bool ((((x122.1).Hi).M).Neg)),(slK (kInt .u32) ((((x122.1).Hi).M).Mag)),(.int .i64 (((x122.1).Hi).E))])),(4,(.live 30 [(.bool x.2.2.1),(slK (kInt .u32) x.2.2.2.1),(.int .i64 x.2.2.2.2.1),(.bool x.2.2.2.2.2.1),(slK (kInt .u32) x.2.2.2.2.2.2.1),(.int .i64 x.2.2.2.2.2.2.2.1)])),(5,(.live 30 [(.bool x.2.2.2.2.2.2.2.2.1),(slK (kInt .u32) x.2.2.2.2.2.2.2.2.2.1),(.int .i64 x.2.2.2.2.2.2.2.2.2.2.1),(.bool x.2.2.2.2.2.2.2.2.2.2.2.1),(slK (kInt .u32) x.2.2.2.2.2.2.2.2.2.2.2.2.1),(.int .i64 x.2.2.2.2.2.2.2.2.2.2.2.2.2)]))])) (1,x122.2,a0.Lo.M.Neg,a0.Lo.M.Mag,a0.Lo.E,a0.Hi.M.Neg,a0.Hi.M.Mag,a0.Hi.E,a0.Lo.M.Neg,a0.Lo.M.Mag,a0.Lo.E,a0.Hi.M.Neg,a0.Hi.M.Mag,a0.Hi.E) [(0,0),(2,2),(3,3),(4,4),(5,5)] rfl ?_
   rintro n2 ⟨y218,y219,y220,y221,y222,y223,y224,y225,y226,y227,y228,y229,y230,y231⟩
   try dsimp only
   rw [r07_Atanh_l2]
   refine .g 8 rfl<|.p0 rfl rfl fun x232 _=>.g 3 rfl<|?_
   refine .cd rfl (fun _ _=>?_) fun _ _=>?_
   ·refine .g 9 rfl<|.bind fun x237 h69=>.st rfl (cl (CC.h h69) [0] [] [true] rfl (.p rfl<|.a kI<|.a kI<|.nil) (.p rfl (.i<|.i<|.nil) .nil) fnil (.cons (.v (.i<|.i<|.nil)) .nil) (ren_agg (K:=kI) _) (.turned .nil) rfl) rfl<|.g 12 rfl<|.bind fun x238 h70=>.st rfl (cl (CC.h h70) [0] [] [true] rfl (.p rfl<|.i<|.nil) (.p rfl (.i<|.i<|.nil) .nil) fnil (.cons (.v (.i<|.i<|.nil)) .nil) (ren_agg (K:=kI) _) (.turned .nil) rfl) rfl<|.bind fun x239 h71=>.st rfl (cl (CC.h h71) [0] [] [true] rfl (.p rfl<|.a kI<|.a kI<|.nil) (.p rfl (.i<|.i<|.nil) .nil) fnil (.cons (.v (.i<|.i<|.nil)) .nil) (ren_agg (K:=kI) _) (.turned .nil) rfl) rfl<|.bind fun x240 h72=>.st rfl (cl (CC.h h72) [0] [] [true] rfl (.p rfl<|.a kI<|.a kI<|.nil) (.p rfl (.i<|.i<|.nil) .nil) fnil (.cons (.v (.i<|.i<|.nil)) .nil) (ren_agg (K:=kI) _) (.turned .nil) rfl) rfl<|.g 1 rfl<|.dn (by kernel_rfl)<|.g 7 rfl<|.ag ((IntKind.i64.wrap (y218+1)),x240.2,(((x240.1).Lo).M).Neg,(((x240.1).Lo).M).Mag,((x240.1).Lo).E,(((x240.1).Hi).M).Neg,(((x240.1).Hi).M).Mag,((x240.1).Hi).E,(((x237.1).Lo).M).Neg,(((x237.1).Lo).M).Mag,((x237.1).Lo).E,(((x237.1).Hi).M).Neg,(((x237.1).Hi).M).Mag,((x237.1).Hi).E) [(0,0),(2,2),(3,3),(4,4),(5,5)] rfl
   ·refine .g 4 rfl<|.jw (h39 (y219,y220,y221,y222,y223,y224,y225)) [(0,0),(2,2),(4,4)] rfl
instance r08_Ln2_i (a0:Int) (a1:Int):CC (r08_Ln2 a0 a1) Tryz.prog 86 [(.ptr 0 0)] [(.live 83 [(.int .i64 a0),(.int .i64 a1)])] (fun r=>(.agg (kI.enc (⟨⟨(((r.1).Lo).M),((r.1).Lo).E⟩,⟨(((r.1).Hi).M),((r.1).Hi).E⟩⟩:AI)))) (fun r=>[(.live 83 [(.int .i64 a0),(.int .i64 r.2)])]):=cc func86 (by kernel_rfl) rfl fun E=>by
 unfold r08_Ln2
 refine .g 11 rfl<|.bind fun x6 h1=>.st rfl (cl (CC.h h1) [0] [] [true] rfl (.p rfl<|.i<|.nil) (.p rfl (.i<|.i<|.nil) .nil) fnil (.cons (.v (.i<|.i<|.nil)) .nil) (ren_agg (K:=kI) _) (.turned .nil) rfl) rfl<|.g 1 rfl<|.bind fun x7 h2=>.st rfl (cl (CC.h h2) [0] [] [true] rfl (.p rfl<|.i<|.nil) (.p rfl (.i<|.i<|.nil) .nil) fnil (.cons (.v (.i<|.i<|.nil)) .nil) (ren_agg (K:=kI) _) (.turned .nil) rfl) rfl<|.bind fun x8 h3=>.st rfl (cl (CC.h h3) [0] [] [true] rfl (.p rfl<|.a kI<|.a kI<|.nil) (.p rfl (.i<|.i<|.nil) .nil) fnil (.cons (.v (.i<|.i<|.nil)) .nil) (ren_agg (K:=kI) _) (.turned .nil) rfl) rfl<|.bind fun x9 h4=>.st rfl (cl (CC.h h4) [0] [] [true] rfl (.p rfl<|.a kI<|.nil) (.p rfl (.i<|.i<|.nil) .nil) fnil (.cons (.v (.i<|.i<|.nil)) .nil) (ren_agg (K:=kI) _) (.turned .nil) rfl) rfl<|.bind fun x10 h5=>.st rfl (cl (CC.h h5) [0] [] [true] rfl (.p rfl<|.a kI<|.i<|.nil) (.p rfl (.i<|.i<|.nil) .nil) fnil (.cons (.v (.i<|.i<|.nil)) .nil) (ren_agg (K:=kI) _) (.turned .nil) rfl) rfl<|.g 4 rfl<|.fi rfl rfl
instance r09_Ln_i (a0:AD) (a1:Int):PC (r09_Ln a0 a1) Tryz.prog 21 [(.agg (kD.enc a0)),(.int .i64 a1)] (fun r=>(.tup [(.agg (kI.enc (⟨⟨(((r.1).Lo).M),((r.1).Lo).E⟩,⟨(((r.1).Hi).M),((r.1).Hi).E⟩⟩:AI))),(.int .i64 r.2)])):=pc func21 (by kernel_rfl) rfl fun E=>by
 unfold r09_Ln
 refine .g 12 rfl<|.p0 rfl rfl fun x36 _=>.g 3 rfl<|?_
 refine .cd rfl (fun _ _=>?_) fun _ _=>?_
 ·refine .g 9 rfl<|.fi rfl rfl
 ·refine .g 5 rfl<|.p0 rfl rfl fun x37 _=>.g 9 rfl<|?_
  refine .cut (fun x:Bool=>(r09_Ln_j1 a1 a0 x37 x,[eI 1 a1,eP 2 0,eP 4 1,eI 6 x37.1,eB 32 x],[(0,(.live 26 [(.bool a0.M.Neg),(slK (kInt .u32) a0.M.Mag),(.int .i64 a0.E)])),(1,(.live 30 [(.bool false),(slK (kInt .u32) []),(.int .i64 0),(.bool false),(slK (kInt .u32) []),(.int .i64 0)]))])) ?_ ?_
  ·rintro y38
   dsimp only [r09_Ln_j1]
   refine .g 1 rfl<|?_
   refine .cd rfl (fun _ _=>?_) fun _ _=>?_
   ·refine .g 9 rfl<|.fi rfl rfl
   ·refine .g 6 rfl<|.bind fun x39 h8=>?_
    rcases x39 with x40 | x41
    ·dsimp only
     refine .st rfl (cl (r06_New_k_0 h8) [] [2] [true] rfl (.i<|.nil) .nil (fresh_cons rfl fnil) (.cons .dead .nil) .nilptr (.turned .nil) rfl) rfl<|.g 15 rfl<|.no
    ·dsimp only
     refine .st rfl (cl (r06_New_k_1 h8) [] [2] [true] rfl (.i<|.nil) .nil (fresh_cons rfl fnil) (.cons (.v (.i<|.i<|.nil)) .nil) (.ptr _ _ _ rfl) (.turned .nil) rfl) rfl<|.g 15 rfl<|.bind fun x42 h9=>.st rfl (cl (CC.h h9) [2] [] [true] rfl (.p rfl<|.a kD<|.nil) (.p rfl (.i<|.i<|.nil) .nil) fnil (.cons (.v (.i<|.i<|.nil)) .nil) (ren_agg (K:=kI) _) (.turned .nil) rfl) rfl<|.g 2 rfl<|.bind fun x43 h10=>.st rfl (cl (CC.h h10) [2] [] [true] rfl (.p rfl<|.a kI<|.i<|.nil) (.p rfl (.i<|.i<|.nil) .nil) fnil (.cons (.v (.i<|.i<|.nil)) .nil) (ren_agg (K:=kI) _) (.turned .nil) rfl) rfl<|.g 6 rfl<|.p0 rfl rfl fun x44 _=>.p0 rfl rfl fun x45 _=>.g 10 rfl<|?_
     refine .cut (fun x:Bool=>(r09_Ln_j2 x43 x41 a1 x37 x,[eI 1 a1,eP 4 1,eP 8 2,eI 9 (IntKind.i64.wrap (x37.1-1)),eP 10 3,eB 62 x],[(1,(.live 30 [(.bool false),(slK (kInt .u32) []),(.int .i64 0),(.bool false),(slK (kInt .u32) []),(.int .i64 0)])),(2,(.live 83 [(.int .i64 x41.1),(.int .i64 x43.2)])),(3,(.live 30 [(.bool ((((x43.1).Lo).M).Neg)),(slK (kInt .u32) ((((x43.1).Lo).M).Mag)),(.int .i64 (((x43.1).Lo).E)),(.bool ((((x43.1).Hi).M).Neg)),(slK (kInt .u32) ((((x43.1).Hi).M).Mag)),(.int .i64 (((x43.1).Hi).E))]))])) ?_ ?_
     ·rintro y47
      dsimp only [r09_Ln_j2]
      refine .g 1 rfl<|?_
      refine .cut (fun x:Int × Int × Bool × (List Int) × Int × Bool × (List Int) × Int=>(r09_Ln_j3 x41 a1 x.1 x.2.1 x.2.2.1 x.2.2.2.1 x.2.2.2.2.1 x.2.2.2.2.2.1 x.2.2.2.2.2.2.1 x.2.2.2.2.2.2.2,[eI 1 a1,eP 4 1,eP 8 2,eI 9 x.1,eP 10 3],[(1,(.live 30 [(.bool false),(slK (kInt .u32) []),(.int .i64 0),(.bool false),(slK (kInt .u32) []),(.int .i64 0)])),(2,(.live 83 [(.int .i64 x41.1),(.int .i64 x.2.1)])),(3,(.live 30 [(.bool x.2.2.1),(slK (kInt .u32) x.2.2.2.1),(.int .i64 x.2.2.2.2.1),(.bool x.2.2.2.2.2.1),(slK (kInt .u32) x.2.2.2.2.2.2.1),(.int .i64 x.2.2.2.2.2.2.2)]))])) ?_ ?_
      ·rintro ⟨y49,y50,y51,y52,y53,y54,y55,y56⟩
       dsimp only [r09_Ln_j3]
       refine .g 7 rfl<|.bind fun x57 h18=>.st rfl (cl (CC.h h18) [2] [] [true] rfl (.p rfl<|.i<|.nil) (.p rfl (.i<|.i<|.nil) .nil) fnil (.cons (.v (.i<|.i<|.nil)) .nil) (ren_agg (K:=kI) _) (.turned .nil) rfl) rfl<|.bind fun x58 h19=>.st rfl (cl (CC.h h19) [2] [] [true] rfl (.p rfl<|.a kI<|.a kI<|.nil) (.p rfl (.i<|.i<|.nil) .nil) fnil (.cons (.v (.i<|.i<|.nil)) .nil) (ren_agg (K:=kI) _) (.turned .nil) rfl) rfl<|.g 3 rfl<|.bind fun x59 h20=>.st rfl (cl (CC.h h20) [2] [] [true] rfl (.p rfl<|.i<|.nil) (.p rfl (.i<|.i<|.nil) .nil) fnil (.cons (.v (.i<|.i<|.nil)) .nil) (ren_agg (K:=kI) _) (.turned .nil) rfl) rfl<|.bind fun x60 h21=>.st rfl (cl (CC.h h21) [2] [] [true] rfl (.p rfl<|.a kI<|.a kI<|.nil) (.p rfl (.i<|.i<|.nil) .nil) fnil (.cons (.v (.i<|.i<|.nil)) .nil) (ren_agg (K:=kI) _) (.turned .nil) rfl) rfl<|.bind fun x61 h22=>.st rfl (cl (CC.h h22) [2] [] [true] rfl (.p rfl<|.a kI<|.a kI<|.nil) (.p rfl (.i<|.i<|.nil) .nil) fnil (.cons (.v (.i<|.i<|.nil)) .nil) (ren_agg (K:=kI) _) (.turned .nil) rfl) rfl<|.g 2 rfl<|.dn (by kernel_rfl)<|?_
       refine .g 6 rfl<|.bind fun x62 h23=>.st rfl (cl (CC.h h23) [2] [] [true] rfl (.p rfl<|.a kI<|.nil) (.p rfl (.i<|.i<|.nil) .nil) fnil (.cons (.v (.i<|.i<|.nil)) .nil) (ren_agg (K:=kI) _) (.turned .nil) rfl) rfl<|.bind fun x63 h24=>.st rfl (cl (CC.h h24) [2] [] [true] rfl (.p rfl<|.a kI<|.i<|.nil) (.p rfl (.i<|.i<|.nil) .nil) fnil (.cons (.v (.i<|.i<|.nil)) .nil) (ren_agg (K:=kI) _) (.turned .nil) rfl) rfl<|.g 11 rfl<|.bind fun x64 h25=>.st rfl (cl (CC.h h25) [2] [] [true] rfl (.p rfl<|.i<|.nil) (.p rfl (.i<|.i<|.nil) .nil) fnil (.cons (.v (.i<|.i<|.nil)) .nil) (ren_agg (K:=kI) _) (.turned .nil) rfl) rfl<|.g 1 rfl<|.bind fun x65 h26=>.st rfl (cl (CC.h h26) [2] [] [true] rfl (.p rfl<|.nil) (.p rfl (.i<|.i<|.nil) .nil) fnil (.cons (.v (.i<|.i<|.nil)) .nil) (ren_agg (K:=kI) _) (.turned .nil) rfl) rfl<|.bind fun x66 h27=>.st rfl (cl (CC.h h27) [2] [] [true] rfl (.p rfl<|.a kI<|.a kI<|.nil) (.p rfl (.i<|.i<|.nil) .nil) fnil (.cons (.v (.i<|.i<|.nil)) .nil) (ren_agg (K:=kI) _) (.turned .nil) rfl) rfl<|.bind fun x67 h28=>?_
       refine .st rfl (cl (CC.h h28) [2] [] [true] rfl (.p rfl<|.a kI<|.a kI<|.nil) (.p rfl (.i<|.i<|.nil) .nil) fnil (.cons (.v (.i<|.i<|.nil)) .nil) (ren_agg (K:=kI) _) (.turned .nil) rfl) rfl<|.g 2 rfl<|.dn (by kernel_rfl)<|.g 6 rfl<|.bind fun x68 h29=>.st rfl (cl (CC.h h29) [2] [] [false] rfl (.p rfl<|.a kI<|.i<|.nil) (.p rfl (.i<|.i<|.nil) .nil) fnil (.cons (.v (.i<|.i<|.nil)) .nil) (ren_tupL (.a kI<|.i<|.nil)) (.kept rfl .nil) rfl) rfl<|.g 7 rfl<|.fi rfl rfl
      ·intro h30
       refine .cd rfl (fun _ _=>?_) fun _ _=>?_
       ·refine .g 4 rfl<|.bind fun x69 h33=>.st rfl (cl (CC.h h33) [2] [] [true] rfl (.p rfl<|.a kI<|.i<|.nil) (.p rfl (.i<|.i<|.nil) .nil) fnil (.cons (.v (.i<|.i<|.nil)) .nil) (ren_agg (K:=kI) _) (.turned .nil) rfl) rfl<|.g 8 rfl<|.jw (h30 ((IntKind.i64.wrap ((IntKind.i64.wrap (x37.1-1))+1)),x69.2,(((x69.1).Lo).M).Neg,(((x69.1).Lo).M).Mag,((x69.1).Lo).E,(((x69.1).Hi).M).Neg,(((x69.1).Hi).M).Mag,((x69.1).Hi).E)) [(1,1),(2,2),(3,3)] rfl
       ·refine .g 1 rfl<|.jw (h30 ((IntKind.i64.wrap (x37.1-1)),x43.2,(((x43.1).Lo).M).Neg,(((x43.1).Lo).M).Mag,((x43.1).Lo).E,(((x43.1).Hi).M).Neg,(((x43.1).Hi).M).Mag,((x43.1).Hi).E)) [(1,1),(2,2),(3,3)] rfl
     ·intro h34
      refine .g 7 rfl<|?_
      refine .gd 56 rfl (fun _=>?_) fun _=>?_
      ·refine .g 3 rfl<|.p0 rfl rfl fun x70 _=>.g 3 rfl<|.jw (h34 (decide (x70≥0))) [(1,1),(2,2),(3,3)] rfl
      ·refine .g 7 rfl<|.jw (h34 false) [(1,1),(2,2),(3,3)] rfl
  ·intro h37
   refine .g 4 rfl<|?_
   refine .gd 28 rfl (fun _=>?_) fun _=>?_
   ·refine .g 5 rfl<|.jw (h37 true) [(0,0),(1,1)] rfl
   ·refine .g 5 rfl<|.jw (h37 a0.M.Neg) [(0,0),(1,1)] rfl
instance r09_LnOf_i (a0:AI) (a1:Int):PC (r09_LnOf a0 a1) Tryz.prog 41 [(.agg (kI.enc a0)),(.int .i64 a1)] (fun r=>(.tup [(.agg (kI.enc (⟨⟨(((r.1).Lo).M),((r.1).Lo).E⟩,⟨(((r.1).Hi).M),((r.1).Hi).E⟩⟩:AI))),(.int .i64 r.2)])):=pc func41 (by kernel_rfl) rfl fun E=>by
 unfold r09_LnOf
 refine .g 10 rfl<|.p0 rfl rfl fun x9 _=>.g 5 rfl<|?_
 refine .cut (fun x:Bool=>(r09_LnOf_j1 a0 a1 x,[eI 1 a1,eP 2 0,eP 4 1,eB 28 x],[(0,(.live 30 [(.bool a0.Lo.M.Neg),(slK (kInt .u32) a0.Lo.M.Mag),(.int .i64 a0.Lo.E),(.bool a0.Hi.M.Neg),(slK (kInt .u32) a0.Hi.M.Mag),(.int .i64 a0.Hi.E)])),(1,(.live 30 [(.bool false),(slK (kInt .u32) []),(.int .i64 0),(.bool false),(slK (kInt .u32) []),(.int .i64 0)]))])) ?_ ?_
 ·rintro y12
  dsimp only [r09_LnOf_j1]
  refine .g 1 rfl<|?_
  refine .cd rfl (fun _ _=>?_) fun _ _=>?_
  ·refine .g 9 rfl<|.fi rfl rfl
  ·refine .g 7 rfl<|.p0 rfl rfl fun x13 _=>.g 15 rfl<|?_
   refine .cd rfl (fun _ _=>?_) fun _ _=>?_
   ·refine .g 10 rfl<|.fi rfl rfl
   ·refine .g 7 rfl<|.p0 rfl rfl fun x14 _=>.g 15 rfl<|?_
    refine .cd rfl (fun _ _=>?_) fun _ _=>?_
    ·refine .g 10 rfl<|.fi rfl rfl
    ·refine .g 14 rfl<|.fi rfl rfl
 ·intro h14
  refine .g 4 rfl<|?_
  refine .gd 15 rfl (fun _=>?_) fun _=>?_
  ·refine .g 14 rfl<|.jw (h14 true) [(0,0),(1,1)] rfl
  ·refine .g 3 rfl<|.p0 rfl rfl fun x15 _=>.g 3 rfl<|?_
   refine .gd 22 rfl (fun _=>?_) fun _=>?_
   ·refine .g 7 rfl<|.jw (h14 true) [(0,0),(1,1)] rfl
   ·refine .g 3 rfl<|.p0 rfl rfl fun x16 _=>.g 3 rfl<|.jw (h14 (!x16)) [(0,0),(1,1)] rfl
instance r04_Same_i (a0:ApiInt) (a1:ApiInt):PC (r04_Same a0 a1) Tryz.prog 200 [(.agg (kN.enc a0)),(.agg (kN.enc a1))] (fun r=>(.bool r)):=pc func200 (by kernel_rfl) rfl fun E=>by
 unfold r04_Same
 refine .g 9 rfl<|?_
 refine .cut (fun x:Bool=>(r04_Same_j1 a0 a1 x,[eP 2 0,eP 3 1,eB 19 x],[(0,(.live 24 [(.bool a0.Neg),(slK (kInt .u32) a0.Mag)])),(1,(.live 24 [(.bool a1.Neg),(slK (kInt .u32) a1.Mag)]))])) ?_ ?_
 ·rintro y6
  dsimp only [r04_Same_j1]
  refine .g 1 rfl<|?_
  refine .cd rfl (fun _ _=>?_) fun _ _=>?_
  ·refine .g 7 rfl<|.fi rfl rfl
  ·refine .g 8 rfl<|?_
   refine .cut (fun x:Unit=>(r04_Same_j2,[],[])) ?_ ?_
   ·rintro _
    dsimp only [r04_Same_j2]
    refine .g 7 rfl<|.fi rfl rfl
   ·intro h34
    refine .g 1 rfl<|?_
    refine .lp (fun n (x:Int)=>r04_Same_l3 a0 a1 n x) (fun x=>([eP 2 0,eP 3 1,eI 5 x],[(0,(.live 24 [(.bool a0.Neg),(slK (kInt .u32) a0.Mag)])),(1,(.live 24 [(.bool a1.Neg),(slK (kInt .u32) a1.Mag)]))])) 0 [(0,0),(1,1)] rfl ?_
    rintro n3 y10
    try dsimp only
    rw [r04_Same_l3]
    refine .g 6 rfl<|.ln rfl rfl<|.g 3 rfl<|?_
    refine .cd rfl (fun _ _=>?_) fun _ _=>?_
    ·refine .g 9 rfl<|.ix rfl rfl<|.g 4 rfl<|.ix rfl rfl<|.g 2 rfl<|.dn (by kernel_rfl)<|.g 1 rfl<|?_
     refine .cd rfl (fun _ _=>?_) fun _ _=>?_
     ·refine .g 11 rfl<|.fi rfl rfl
     ·refine .g 8 rfl<|.ag (IntKind.i64.wrap (y10+1)) [(0,0),(1,1)] rfl
    ·refine .g 4 rfl<|.jw (h34 ()) [] rfl
 ·intro h65
  refine .g 7 rfl<|?_
  refine .gd 11 rfl (fun _=>?_) fun _=>?_
  ·refine .g 9 rfl<|.jw (h65 true) [(0,0),(1,1)] rfl
  ·refine .g 2 rfl<|.ln rfl rfl<|.g 2 rfl<|.ln rfl rfl<|.g 3 rfl<|.jw (h65 ((a0.Mag.length:Int) != (a1.Mag.length:Int))) [(0,0),(1,1)] rfl
instance r05_Same_i (a0:AD) (a1:AD):PC (r05_Same a0 a1) Tryz.prog 147 [(.agg (kD.enc a0)),(.agg (kD.enc a1))] (fun r=>(.bool r)):=pc func147 (by kernel_rfl) rfl fun E=>by
 unfold r05_Same
 refine .g 8 rfl<|?_
 refine .cut (fun x:Bool=>(r05_Same_j1 x,[eB 4 x],[])) ?_ ?_
 ·rintro y5
  dsimp only [r05_Same_j1]
  refine .g 2 rfl<|.fi rfl rfl
 ·intro h3
  refine .g 7 rfl<|?_
  refine .gd 10 rfl (fun _=>?_) fun _=>?_
  ·refine .g 4 rfl<|.p0 rfl rfl fun x6 _=>.g 3 rfl<|.jw (h3 x6) [] rfl
  ·refine .g 8 rfl<|.jw (h3 false) [] rfl
instance r06_Same_i (a0:AI) (a1:AI):PC (r06_Same a0 a1) Tryz.prog 75 [(.agg (kI.enc a0)),(.agg (kI.enc a1))] (fun r=>(.bool r)):=pc func75 (by kernel_rfl) rfl fun E=>by
 unfold r06_Same
 refine .g 8 rfl<|?_
 refine .cut (fun x:Bool=>(r06_Same_j1 x,[eB 4 x],[])) ?_ ?_
 ·rintro y8
  dsimp only [r06_Same_j1]
  refine .g 2 rfl<|.fi rfl rfl
 ·intro h4
  refine .g 5 rfl<|.p0 rfl rfl fun x9 _=>.g 1 rfl<|?_
  refine .gd 10 rfl (fun _=>?_) fun _=>?_
  ·refine .g 4 rfl<|.p0 rfl rfl fun x10 _=>.g 3 rfl<|.jw (h4 x10) [] rfl
  ·refine .g 8 rfl<|.jw (h4 false) [] rfl
instance l09_same_i (a0:AI) (a1:AI):PC (l09_same a0 a1) Tryz.prog 19 [(.agg (kI.enc a0)),(.agg (kI.enc a1))] (fun r=>(.bool r)):=pc func19 (by kernel_rfl) rfl fun E=>by
 unfold l09_same
 refine .g 11 rfl<|.p0 rfl rfl fun x2 _=>.g 4 rfl<|.fi rfl rfl
instance l09_ExpoOf_i (a0:AD) (a1:AD) (a2:Int):PC (l09_ExpoOf a0 a1 a2) Tryz.prog 8 [(.agg (kD.enc a0)),(.agg (kD.enc a1)),(.int .i64 a2)] (fun r=>(.bool r)):=pc func8 (by kernel_rfl) rfl fun E=>by
 unfold l09_ExpoOf
 refine .g 9 rfl<|.p0 rfl rfl fun x13 _=>.g 10 rfl<|?_
 refine .cd rfl (fun _ _=>?_) fun _ _=>?_
 ·refine .g 7 rfl<|.fi rfl rfl
 ·refine .g 5 rfl<|.p0 rfl rfl fun x14 _=>.g 1 rfl<|.p0 rfl rfl fun x15 _=>.g 3 rfl<|.dn (by kernel_rfl)<|.g 3 rfl<|?_
  refine .cut (fun x:Bool=>(l09_ExpoOf_j1 x14 x15 x13 a2 x,[eI 2 a2,eB 7 x13,eP 8 2,eB 32 x],[(2,(.live 30 [(.bool (((x14).M).Neg)),(slK (kInt .u32) (((x14).M).Mag)),(.int .i64 ((x14).E)),(.bool (((x15).M).Neg)),(slK (kInt .u32) (((x15).M).Mag)),(.int .i64 ((x15).E))]))])) ?_ ?_
  ·rintro y16
   dsimp only [l09_ExpoOf_j1]
   refine .g 1 rfl<|?_
   refine .cut (fun x:Int=>(l09_ExpoOf_j2 x14 x15 x13 x,[eI 2 x,eB 7 x13,eP 8 2],[(2,(.live 30 [(.bool (((x14).M).Neg)),(slK (kInt .u32) (((x14).M).Mag)),(.int .i64 ((x14).E)),(.bool (((x15).M).Neg)),(slK (kInt .u32) (((x15).M).Mag)),(.int .i64 ((x15).E))]))])) ?_ ?_
   ·rintro y17
    dsimp only [l09_ExpoOf_j2]
    refine .g 5 rfl<|.p0 rfl rfl fun x18 _=>.g 12 rfl<|.p0 rfl rfl fun x19 _=>.g 12 rfl<|.p0 rfl rfl fun x20 _=>.g 12 rfl<|.p0 rfl rfl fun x21 _=>.g 12 rfl<|.p0 rfl rfl fun x22 _=>.g 7 rfl<|.p0 rfl rfl fun x23 _=>.g 4 rfl<|?_
    refine .cut (fun x:Bool=>(l09_ExpoOf_j3 x,[eB 6 x],[])) ?_ ?_
    ·rintro y24
     dsimp only [l09_ExpoOf_j3]
     refine .g 2 rfl<|.fi rfl rfl
    ·intro h19
     refine .g 3 rfl<|?_
     refine .gd 64 rfl (fun _=>?_) fun _=>?_
     ·refine .g 3 rfl<|?_
      refine .gd 67 rfl (fun _=>?_) fun _=>?_
      ·refine .g 3 rfl<|?_
       refine .gd 70 rfl (fun _=>?_) fun _=>?_
       ·refine .g 5 rfl<|?_
        refine .gd 75 rfl (fun _=>?_) fun _=>?_
        ·refine .g 6 rfl<|.jw (h19 (x20.2 == x21.2)) [] rfl
        ·refine .g 6 rfl<|.jw (h19 false) [] rfl
       ·refine .g 11 rfl<|.jw (h19 false) [] rfl
      ·refine .g 14 rfl<|.jw (h19 false) [] rfl
     ·refine .g 17 rfl<|.jw (h19 false) [] rfl
   ·intro h24
    refine .cd rfl (fun _ _=>?_) fun _ _=>?_
    ·refine .g 3 rfl<|.jw (h24 60) [(2,2)] rfl
    ·refine .g 1 rfl<|.jw (h24 a2) [(2,2)] rfl
  ·intro h27
   refine .g 4 rfl<|?_
   refine .gd 29 rfl (fun _=>?_) fun _=>?_
   ·refine .g 4 rfl<|.jw (h27 (decide (a2≤336))) [(2,2)] rfl
   ·refine .g 4 rfl<|.jw (h27 false) [(2,2)] rfl
end Go.Proofs.YtjfcghliglfapaaGreat.Gen
