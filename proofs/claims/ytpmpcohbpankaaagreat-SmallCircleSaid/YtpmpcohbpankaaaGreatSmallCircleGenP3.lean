/- Printed by geng.py: a call does what the plain function says. -/
import Derived.Test.YtpmpcohbpankaaaGreatSmallCircleGenP2
set_option maxRecDepth 4000
namespace Go.Proofs.YtpmpcohbpankaaaGreat.Gen
open Go Go.Abs Go.Proofs Go.Proofs.Tryz
instance l07_examples_i:PC (l07_examples) Tryz.prog 40 [] (fun r=>(.bool r)):=pc func40 (by kernel_rfl) rfl fun E=>by
 unfold l07_examples
 refine .g 7 rfl<|.bind fun x15 h1=>?_
 rcases x15 with x16 | x17
 ·dsimp only
  refine .st rfl (cl (iv_New_k_0 h1) [] [0] [true] rfl (.i<|.nil) .nil (fresh_cons rfl fnil) (.cons .dead .nil) (ren_tupL (.cons .nilptr<|.i<|.nil)) (.turned .nil) rfl) rfl<|.g 26 rfl<|.fi rfl rfl
 ·dsimp only
  refine .st rfl (cl (iv_New_k_1 h1) [] [0] [true] rfl (.i<|.nil) .nil (fresh_cons rfl fnil) (.cons (.v (.i<|.i<|.nil)) .nil) (ren_tupL (.p rfl<|.i<|.nil)) (.turned .nil) rfl) rfl<|.g 18 rfl<|?_
  refine .cd rfl (fun _ _=>?_) fun _ _=>?_
  ·refine .g 7 rfl<|.fi rfl rfl
  ·refine .g 6 rfl<|.bind fun x18 h4=>.st rfl (cl (CC.h h4) [0] [] [true] rfl (.p rfl<|.i<|.nil) (.p rfl (.i<|.i<|.nil) .nil) fnil (.cons (.v (.i<|.i<|.nil)) .nil) (ren_agg (K:=kI) _) (.turned .nil) rfl) rfl<|.bind fun x19 h5=>.st rfl (cl (CC.h h5) [0] [] [true] rfl (.p rfl<|.a kI<|.nil) (.p rfl (.i<|.i<|.nil) .nil) fnil (.cons (.v (.i<|.i<|.nil)) .nil) (ren_agg (K:=kI) _) (.turned .nil) rfl) rfl<|.g 5 rfl<|?_
   refine .cut (fun x:Bool=>(l07_examples_j1 x,[eB 0 x],[])) ?_ ?_
   ·rintro y24
    dsimp only [l07_examples_j1]
    refine .g 2 rfl<|.fi rfl rfl
   ·intro h12
    refine .g 1 rfl<|.p0 rfl rfl fun x25 _=>.g 2 rfl<|?_
    refine .gd 20 rfl (fun _=>?_) fun _=>?_
    ·refine .g 1 rfl<|.p0 rfl rfl fun x26 _=>.p0 rfl rfl fun x27 _=>.g 2 rfl<|?_
     refine .gd 25 rfl (fun _=>?_) fun _=>?_
     ·refine .g 3 rfl<|.bind fun x28 h18=>.st rfl (cl (CC.h h18) [0] [] [false] rfl (.p rfl<|.nil) (.p rfl (.i<|.i<|.nil) .nil) fnil (.cons (.v (.i<|.i<|.nil)) .nil) (.int _ _) (.kept rfl .nil) rfl) rfl<|.g 3 rfl<|.dn (by kernel_rfl)<|.jw (h12 (x28 == 0)) [] rfl
     ·refine .g 7 rfl<|.dn (by kernel_rfl)<|.jw (h12 false) [] rfl
    ·refine .g 12 rfl<|.dn (by kernel_rfl)<|.jw (h12 false) [] rfl
instance l07_prec_i (a0:Int):PC (l07_prec a0) Tryz.prog 41 [(.int .i64 a0)] (fun r=>(.int .i64 r)):=pc func41 (by kernel_rfl) rfl fun E=>by
 unfold l07_prec
 refine .g 12 rfl<|?_
 refine .cut (fun x:Int=>(l07_prec_j1 x,[eI 0 x],[])) ?_ ?_
 ·rintro y2
  dsimp only [l07_prec_j1]
  refine .g 10 rfl<|.fi rfl rfl
 ·intro h3
  refine .cd rfl (fun _ _=>?_) fun _ _=>?_
  ·refine .g 6 rfl<|.jw (h3 (IntKind.i64.wrap (0-(IntKind.i64.wrap (a0+1))))) [] rfl
  ·refine .g 1 rfl<|.jw (h3 a0) [] rfl
instance r01_Bits_i (a0:List Int):PC (r01_Bits a0) Tryz.prog 183 [(slK (kInt .u32) a0)] (fun r=>(.int .i64 r)):=pc func183 (by kernel_rfl) rfl fun E=>by
 unfold r01_Bits
 refine .g 8 rfl<|.p0 rfl rfl fun x11 _=>.g 7 rfl<|.ln rfl rfl<|.g 3 rfl<|?_
 refine .cd rfl (fun _ _=>?_) fun _ _=>?_
 ·refine .g 7 rfl<|.fi rfl rfl
 ·refine .g 5 rfl<|.ln rfl rfl<|.g 10 rfl<|.ln rfl rfl<|.g 1 rfl<|.ix rfl rfl<|.g 4 rfl<|?_
  refine .cut (fun x:Int=>(r01_Bits_j1 x,[eI 4 x],[])) ?_ ?_
  ·rintro y16
   dsimp only [r01_Bits_j1]
   refine .g 8 rfl<|.fi rfl rfl
  ·intro h11
   refine .g 1 rfl<|?_
   refine .lp (fun n (x:Int × Int)=>r01_Bits_l2 n x.1 x.2) (fun x=>([eI 4 x.1,eW 5 x.2],[])) ((IntKind.i64.wrap (32*(IntKind.i64.wrap ((x11.length:Int)-1)))),(x11.getD ((IntKind.i64.wrap ((x11.length:Int)-1)).toNat) (kInt .u32).z)) [] rfl ?_
   rintro n2 ⟨y19,y20⟩
   try dsimp only
   rw [r01_Bits_l2]
   refine .g 7 rfl<|?_
   refine .cd rfl (fun _ _=>?_) fun _ _=>?_
   ·refine .g 16 rfl<|.ag ((IntKind.i64.wrap (y19+1)),(shrI .u32 y20 1)) [] rfl
   ·refine .g 4 rfl<|.jw (h11 y19) [] rfl
instance r05_size_i (a0:AD):PC (r05_size a0) Tryz.prog 132 [(.agg (kD.enc a0))] (fun r=>(.int .i64 r)):=pc func132 (by kernel_rfl) rfl fun E=>by
 unfold r05_size
 refine .g 13 rfl<|.p0 rfl rfl fun x2 _=>.g 2 rfl<|.dn (by kernel_rfl)<|.g 2 rfl<|.fi rfl rfl
instance r05_inRange_i (a0:AD):PC (r05_inRange a0) Tryz.prog 152 [(.agg (kD.enc a0))] (fun r=>(.bool r)):=pc func152 (by kernel_rfl) rfl fun E=>by
 unfold r05_inRange
 refine .g 12 rfl<|.ln rfl rfl<|.g 3 rfl<|?_
 refine .cd rfl (fun _ _=>?_) fun _ _=>?_
 ·refine .g 7 rfl<|.fi rfl rfl
 ·refine .g 5 rfl<|.p0 rfl rfl fun x5 _=>.g 4 rfl<|?_
  refine .cut (fun x:Bool=>(r05_inRange_j1 x,[eB 2 x],[])) ?_ ?_
  ·rintro y7
   dsimp only [r05_inRange_j1]
   refine .g 2 rfl<|.fi rfl rfl
  ·intro h9
   refine .g 4 rfl<|?_
   refine .gd 13 rfl (fun _=>?_) fun _=>?_
   ·refine .g 4 rfl<|?_
    refine .gd 17 rfl (fun _=>?_) fun _=>?_
    ·refine .g 5 rfl<|?_
     refine .gd 22 rfl (fun _=>?_) fun _=>?_
     ·refine .g 5 rfl<|?_
      refine .gd 27 rfl (fun _=>?_) fun _=>?_
      ·refine .g 3 rfl<|.p0 rfl rfl fun x8 _=>.g 4 rfl<|.jw (h9 (decide (x8≤262144))) [] rfl
      ·refine .g 8 rfl<|.jw (h9 false) [] rfl
     ·refine .g 13 rfl<|.jw (h9 false) [] rfl
    ·refine .g 18 rfl<|.jw (h9 false) [] rfl
   ·refine .g 22 rfl<|.jw (h9 false) [] rfl
instance r05_Make_i (a0:ApiInt) (a1:Int):PC (r05_Make a0 a1) Tryz.prog 102 [(.agg (kN.enc a0)),(.int .i64 a1)] (fun r=>(.tup [(.agg (kD.enc (⟨((r.1).M),(r.1).E⟩:AD))),(.bool r.2)])):=pc func102 (by kernel_rfl) rfl fun E=>by
 unfold r05_Make
 refine .g 9 rfl<|?_
 refine .cut (fun x:Bool=>(r05_Make_j1 a0 a1 x,[eI 1 a1,eP 2 0,eP 4 1,eB 13 x],[(0,(.live 24 [(.bool a0.Neg),(slK (kInt .u32) a0.Mag)])),(1,(.live 26 [(.bool false),(slK (kInt .u32) []),(.int .i64 0)]))])) ?_ ?_
 ·rintro y4
  dsimp only [r05_Make_j1]
  refine .g 1 rfl<|?_
  refine .cd rfl (fun _ _=>?_) fun _ _=>?_
  ·refine .g 9 rfl<|.fi rfl rfl
  ·refine .g 6 rfl<|.p0 rfl rfl fun x5 _=>.g 7 rfl<|.p0 rfl rfl fun x6 _=>.g 10 rfl<|?_
   refine .cd rfl (fun _ _=>?_) fun _ _=>?_
   ·refine .g 9 rfl<|.fi rfl rfl
   ·refine .g 10 rfl<|.fi rfl rfl
 ·intro h8
  refine .g 4 rfl<|?_
  refine .gd 10 rfl (fun _=>?_) fun _=>?_
  ·refine .g 4 rfl<|.jw (h8 true) [(0,0),(1,1)] rfl
  ·refine .g 4 rfl<|.jw (h8 (decide (a1>100000))) [(0,0),(1,1)] rfl
instance l07_tame_i (a0:AD) (a1:Int) (a2:Int):PC (l07_tame a0 a1 a2) Tryz.prog 42 [(.agg (kD.enc a0)),(.int .i64 a1),(.int .i64 a2)] (fun r=>(.agg (kD.enc (⟨((r).M),(r).E⟩:AD)))):=pc func42 (by kernel_rfl) rfl fun E=>by
 unfold l07_tame
 refine .g 17 rfl<|.ln rfl rfl<|.g 2 rfl<|.guard fun h1=>.sv (slK (kInt .u32) (a0.M.Mag.take ((mn (a0.M.Mag.length:Int) a1).toNat))) [] rfl (snd_sliceK (kInt .u32) _ _ _ _ _ _ 0 (mn (a0.M.Mag.length:Int) a1) rfl underlying22 si77 rfl rfl rfl rfl rfl h1) rfl<|.p0 rfl rfl fun x3 _=>.g 4 rfl<|.p0 rfl rfl fun x4 _=>.g 6 rfl<|.dn (by kernel_rfl)<|.g 8 rfl<|.fi rfl rfl
instance small_turned_i (a0:AI) (a1:AI) (a2:Int) (a3:Int) (a4:Int):CC (small_turned a0 a1 a2 a3 a4) Tryz.prog 110 [(.ptr 0 0),(.agg (kI.enc a0)),(.agg (kI.enc a1)),(.int .i64 a2)] [(.live 45 [(.int .i64 a3),(.int .i64 a4)])] (fun r=>(.agg (kI.enc (⟨⟨(((r.1).Lo).M),((r.1).Lo).E⟩,⟨(((r.1).Hi).M),((r.1).Hi).E⟩⟩:AI)))) (fun r=>[(.live 45 [(.int .i64 r.2),(.int .i64 a4)])]):=cc func110 (by kernel_rfl) rfl fun E=>by
 unfold small_turned
 refine .g 14 rfl<|.bind fun x5 h1=>.st rfl (cl (CC.h h1) [0] [] [true] rfl (.p rfl<|.a kI<|.a kI<|.nil) (.p rfl (.i<|.i<|.nil) .nil) fnil (.cons (.v (.i<|.i<|.nil)) .nil) (ren_agg (K:=kI) _) (.turned .nil) rfl) rfl<|.g 2 rfl<|.bind fun x6 h2=>.st rfl (cl (CC.h h2) [0] [] [true] rfl (.p rfl<|.i<|.nil) (.p rfl (.i<|.i<|.nil) .nil) fnil (.cons (.v (.i<|.i<|.nil)) .nil) (ren_agg (K:=kI) _) (.turned .nil) rfl) rfl<|.bind fun x7 h3=>.st rfl (cl (CC.h h3) [0] [] [true] rfl (.p rfl<|.a kI<|.a kI<|.nil) (.p rfl (.i<|.i<|.nil) .nil) fnil (.cons (.v (.i<|.i<|.nil)) .nil) (ren_agg (K:=kI) _) (.turned .nil) rfl) rfl<|.bind fun x8 h4=>.st rfl (cl (CC.h h4) [0] [] [true] rfl (.p rfl<|.a kI<|.nil) (.p rfl (.i<|.i<|.nil) .nil) fnil (.cons (.v (.i<|.i<|.nil)) .nil) (ren_agg (K:=kI) _) (.turned .nil) rfl) rfl<|.g 4 rfl<|.fi rfl rfl
instance small_Sin_1_i (a0:Int) (a1:AI) (a2:Int) (a3:Int) (a4:Bool) (a5:List Int) (a6:Int) (a7:Bool) (a8:List Int) (a9:Int):CC (small_Sin_1 a0 a1 a2 a3 a4 a5 a6 a7 a8 a9) Tryz.prog 109 [(.int .i64 a0),(.agg (kI.enc a1)),(.ptr 0 0),(.ptr 2 0)] [(.live 28 [(.ptr 1 0)]),(.live 45 [(.int .i64 a2),(.int .i64 a3)]),(.live 34 [(.bool a4),(slK (kInt .u32) a5),(.int .i64 a6),(.bool a7),(slK (kInt .u32) a8),(.int .i64 a9)])] (fun r=>(.agg (kI.enc (⟨⟨(((r.1).Lo).M),((r.1).Lo).E⟩,⟨(((r.1).Hi).M),((r.1).Hi).E⟩⟩:AI)))) (fun r=>[(.live 28 [(.ptr 1 0)]),(.live 45 [(.int .i64 r.2),(.int .i64 a3)]),(.live 34 [(.bool a4),(slK (kInt .u32) a5),(.int .i64 a6),(.bool a7),(slK (kInt .u32) a8),(.int .i64 a9)])]):=cc func109 (by kernel_rfl) rfl fun E=>by
 unfold small_Sin_1
 refine .g 17 rfl<|.bind fun x2 h1=>.st rfl (cl (CC.h h1) [1] [] [true] rfl (.p rfl<|.a kI<|.a kI<|.i<|.nil) (.p rfl (.i<|.i<|.nil) .nil) fnil (.cons (.v (.i<|.i<|.nil)) .nil) (ren_agg (K:=kI) _) (.turned .nil) rfl) rfl<|.g 4 rfl<|.fi rfl rfl
instance small_plain_1_7cba_i (a0:Int) (a1:AI) (a2:Int) (a3:Int) (a4:Bool) (a5:List Int) (a6:Int) (a7:Bool) (a8:List Int) (a9:Int):CC (small_plain_1_7cba a0 a1 a2 a3 a4 a5 a6 a7 a8 a9) Tryz.prog 155 [(.int .i64 a0),(.agg (kI.enc a1)),(.ptr 0 0)] [(.live 112 [(.fn 109 [] [(.ptr 1 0),(.ptr 3 0)])]),(.live 28 [(.ptr 2 0)]),(.live 45 [(.int .i64 a2),(.int .i64 a3)]),(.live 34 [(.bool a4),(slK (kInt .u32) a5),(.int .i64 a6),(.bool a7),(slK (kInt .u32) a8),(.int .i64 a9)])] (fun r=>(.tup [(.agg (kI.enc (⟨⟨(((r.1).Lo).M),((r.1).Lo).E⟩,⟨(((r.1).Hi).M),((r.1).Hi).E⟩⟩:AI))),(.agg (kI.enc (⟨⟨(((r.2.1).Lo).M),((r.2.1).Lo).E⟩,⟨(((r.2.1).Hi).M),((r.2.1).Hi).E⟩⟩:AI)))])) (fun r=>[(.live 112 [(.fn 109 [] [(.ptr 1 0),(.ptr 3 0)])]),(.live 28 [(.ptr 2 0)]),(.live 45 [(.int .i64 r.2.2),(.int .i64 a3)]),(.live 34 [(.bool a4),(slK (kInt .u32) a5),(.int .i64 a6),(.bool a7),(slK (kInt .u32) a8),(.int .i64 a9)])]):=cc func155 (by kernel_rfl) rfl fun E=>by
 unfold small_plain_1_7cba
 refine .g 12 rfl<|.bind fun x2 h1=>.st rfl (cl (CC.h h1) [1,2,3] [] [false,true,false] rfl (.i<|.a kI<|.p rfl<|.p rfl<|.nil) (.p rfl (.p rfl<|.nil) (.p rfl (.i<|.i<|.nil) (.p rfl (.b<|.l<|.i<|.b<|.l<|.i<|.nil) .nil))) fnil (.cons (.v (.p rfl<|.nil)) (.cons (.v (.i<|.i<|.nil)) (.cons (.v (.b<|.l<|.i<|.b<|.l<|.i<|.nil)) .nil))) (ren_agg (K:=kI) _) (.kept rfl (.turned (.kept rfl .nil))) rfl) rfl<|.g 9 rfl<|.dn (by kernel_rfl)<|.g 2 rfl<|.fi rfl rfl
instance small_series_f1ab_i (a0:AI) (a1:Int) (a2:Int) (a3:Bool) (a4:List Int) (a5:Int) (a6:Bool) (a7:List Int) (a8:Int):CC (small_series_f1ab a0 a1 a2 a3 a4 a5 a6 a7 a8) Tryz.prog 154 [(.ptr 0 0),(.agg (kI.enc a0)),(.fn 155 [] [(.ptr 1 0)])] [(.live 45 [(.int .i64 a1),(.int .i64 a2)]),(.live 112 [(.fn 109 [] [(.ptr 2 0),(.ptr 3 0)])]),(.live 28 [(.ptr 0 0)]),(.live 34 [(.bool a3),(slK (kInt .u32) a4),(.int .i64 a5),(.bool a6),(slK (kInt .u32) a7),(.int .i64 a8)])] (fun r=>(.agg (kI.enc (⟨⟨(((r.1).Lo).M),((r.1).Lo).E⟩,⟨(((r.1).Hi).M),((r.1).Hi).E⟩⟩:AI)))) (fun r=>[(.live 45 [(.int .i64 r.2),(.int .i64 a2)]),(.live 112 [(.fn 109 [] [(.ptr 2 0),(.ptr 3 0)])]),(.live 28 [(.ptr 0 0)]),(.live 34 [(.bool a3),(slK (kInt .u32) a4),(.int .i64 a5),(.bool a6),(slK (kInt .u32) a7),(.int .i64 a8)])]):=cc func154 (by kernel_rfl) rfl fun E=>by
 unfold small_series_f1ab
 refine .g 14 rfl<|.dn (by kernel_rfl)<|.g 5 rfl<|.bind fun x93 h1=>.st rfl (cl (CC.h h1) [0] [] [false] rfl (.p rfl<|.nil) (.p rfl (.i<|.i<|.nil) .nil) fnil (.cons (.v (.i<|.i<|.nil)) .nil) (.int _ _) (.kept rfl .nil) rfl) rfl<|.p0 rfl rfl fun x94 _=>.g 3 rfl<|?_
 refine .cut (fun x:Int × Bool × (List Int) × Int × Bool × (List Int) × Int=>(small_series_f1ab_j1 a2 x.1 x.2.1 x.2.2.1 x.2.2.2.1 x.2.2.2.2.1 x.2.2.2.2.2.1 x.2.2.2.2.2.2,[eP 0 0,eP 6 5,eP 7 6],[(0,(.live 45 [(.int .i64 x.1),(.int .i64 a2)])),(1,(.live 112 [(.fn 109 [] [(.ptr 2 0),(.ptr 3 0)])])),(2,(.live 28 [(.ptr 0 0)])),(3,(.live 34 [(.bool a3),(slK (kInt .u32) a4),(.int .i64 a5),(.bool a6),(slK (kInt .u32) a7),(.int .i64 a8)])),(5,(.live 34 [(.bool false),(slK (kInt .u32) []),(.int .i64 0),(.bool false),(slK (kInt .u32) []),(.int .i64 0)])),(6,(.live 34 [(.bool x.2.1),(slK (kInt .u32) x.2.2.1),(.int .i64 x.2.2.2.1),(.bool x.2.2.2.2.1),(slK (kInt .u32) x.2.2.2.2.2.1),(.int .i64 x.2.2.2.2.2.2)]))])) ?_ ?_
 ·rintro ⟨y135,y136,y137,y138,y139,y140,y141⟩
  dsimp only [small_series_f1ab_j1]
  refine .g 6 rfl<|.bind fun x142 h21=>.st rfl (cl (CC.h h21) [0] [] [false] rfl (.p rfl<|.nil) (.p rfl (.i<|.i<|.nil) .nil) fnil (.cons (.v (.i<|.i<|.nil)) .nil) (.int _ _) (.kept rfl .nil) rfl) rfl<|.g 1 rfl<|.p0 rfl rfl fun x143 _=>.bind fun x144 h23=>.st rfl (cl (CC.h h23) [0] [] [true] rfl (.p rfl<|.a kI<|.a kD<|.nil) (.p rfl (.i<|.i<|.nil) .nil) fnil (.cons (.v (.i<|.i<|.nil)) .nil) (ren_agg (K:=kI) _) (.turned .nil) rfl) rfl<|.g 1 rfl<|.dn (by kernel_rfl)<|.g 2 rfl<|.fi rfl rfl
 ·intro h24
  refine .g 1 rfl<|?_
  refine .lp (fun n (x:Int × Int × Bool × (List Int) × Int × Bool × (List Int) × Int × Bool × (List Int) × Int × Bool × (List Int) × Int)=>small_series_f1ab_l2 x94 a2 a3 a4 a5 a6 a7 a8 n x.1 x.2.1 x.2.2.1 x.2.2.2.1 x.2.2.2.2.1 x.2.2.2.2.2.1 x.2.2.2.2.2.2.1 x.2.2.2.2.2.2.2.1 x.2.2.2.2.2.2.2.2.1 x.2.2.2.2.2.2.2.2.2.1 x.2.2.2.2.2.2.2.2.2.2.1 x.2.2.2.2.2.2.2.2.2.2.2.1 x.2.2.2.2.2.2.2.2.2.2.2.2.1 x.2.2.2.2.2.2.2.2.2.2.2.2.2) (fun x=>([eP 0 0,(2,some (.fn 155 [] [(.ptr 1 0)])),eP 6 5,eP 7 6,eP 8 7,eI 15 x94,eI 16 x.1],[(0,(.live 45 [(.int .i64 x.2.1),(.int .i64 a2)])),(1,(.live 112 [(.fn 109 [] [(.ptr 2 0),(.ptr 3 0)])])),(2,(.live 28 [(.ptr 0 0)])),(3,(.live 34 [(.bool a3),(slK (kInt .u32) a4),(.int .i64 a5),(.bool a6),(slK (kInt .u32) a7),(.int .i64 a8)])),(5,(.live 34 [(.bool false),(slK (kInt .u32) []),(.int .i64 0),(.bool false),(slK (kInt .u32) []),(.int .i64 0)])),(6,(.live 34 [(.bool x.2.2.1),(slK (kInt .u32) x.2.2.2.1),(.int .i64 x.2.2.2.2.1),(.bool x.2.2.2.2.2.1),(slK (kInt .u32) x.2.2.2.2.2.2.1),(.int .i64 x.2.2.2.2.2.2.2.1)])),(7,(.live 34 [(.bool x.2.2.2.2.2.2.2.2.1),(slK (kInt .u32) x.2.2.2.2.2.2.2.2.2.1),(.int .i64 x.2.2.2.2.2.2.2.2.2.2.1),(.bool x.2.2.2.2.2.2.2.2.2.2.2.1),(slK (kInt .u32) x.2.2.2.2.2.2.2.2.2.2.2.2.1),(.int .i64 x.2.2.2.2.2.2.2.2.2.2.2.2.2)]))])) (0,a1,a0.Lo.M.Neg,a0.Lo.M.Mag,a0.Lo.E,a0.Hi.M.Neg,a0.Hi.M.Mag,a0.Hi.E,a0.Lo.M.Neg,a0.Lo.M.Mag,a0.Lo.E,a0.Hi.M.Neg,a0.Hi.M.Mag,a0.Hi.E) [(0,0),(1,1),(2,2),(3,3),(5,5),(6,6),(7,7)] rfl ?_
  rintro n2 ⟨y167,y168,y169,y170,y171,y172,y173,y174,y175,y176,y177,y178,y179,y180⟩
  try dsimp only
  rw [small_series_f1ab_l2]
  refine .g 6 rfl<|?_
  refine .cd rfl (fun _ _=>?_) fun _ _=>?_
  ·refine .g 21 rfl<|.bind fun x183 h41=>.st rfl (cl (CC.h h41) [1,2,0,3] [] [false,false,true,false] rfl (.i<|.a kI<|.p rfl<|.nil) (.p rfl (.cons (ren_fnL _ .nil (.p rfl<|.p rfl<|.nil))<|.nil) (.p rfl (.p rfl<|.nil) (.p rfl (.i<|.i<|.nil) (.p rfl (.b<|.l<|.i<|.b<|.l<|.i<|.nil) .nil)))) fnil (.cons (.v (.cons (ren_fnL _ .nil (.p rfl<|.p rfl<|.nil))<|.nil)) (.cons (.v (.p rfl<|.nil)) (.cons (.v (.i<|.i<|.nil)) (.cons (.v (.b<|.l<|.i<|.b<|.l<|.i<|.nil)) .nil)))) (ren_tupL (.a kI<|.a kI<|.nil)) (.kept rfl (.kept rfl (.turned (.kept rfl .nil)))) rfl) rfl<|.g 11 rfl<|.bind fun x184 h42=>.st rfl (cl (CC.h h42) [0] [] [true] rfl (.p rfl<|.a kI<|.a kI<|.nil) (.p rfl (.i<|.i<|.nil) .nil) fnil (.cons (.v (.i<|.i<|.nil)) .nil) (ren_agg (K:=kI) _) (.turned .nil) rfl) rfl<|.g 8 rfl<|.ag ((IntKind.i64.wrap (y167+1)),x184.2,(((x184.1).Lo).M).Neg,(((x184.1).Lo).M).Mag,((x184.1).Lo).E,(((x184.1).Hi).M).Neg,(((x184.1).Hi).M).Mag,((x184.1).Hi).E,(((x183.1).Lo).M).Neg,(((x183.1).Lo).M).Mag,((x183.1).Lo).E,(((x183.1).Hi).M).Neg,(((x183.1).Hi).M).Mag,((x183.1).Hi).E) [(0,0),(1,1),(2,2),(3,3),(5,5),(6,6),(7,7)] rfl
  ·refine .g 4 rfl<|.jw (h24 (y168,y169,y170,y171,y172,y173,y174)) [(0,0),(1,1),(2,2),(3,3),(5,5),(6,6)] rfl
instance small_plain_c50f_i (a0:AI) (a1:Int) (a2:Int) (a3:Bool) (a4:List Int) (a5:Int) (a6:Bool) (a7:List Int) (a8:Int):CC (small_plain_c50f a0 a1 a2 a3 a4 a5 a6 a7 a8) Tryz.prog 105 [(.ptr 0 0),(.agg (kI.enc a0)),(.fn 109 [] [(.ptr 1 0),(.ptr 2 0)])] [(.live 45 [(.int .i64 a1),(.int .i64 a2)]),(.live 28 [(.ptr 0 0)]),(.live 34 [(.bool a3),(slK (kInt .u32) a4),(.int .i64 a5),(.bool a6),(slK (kInt .u32) a7),(.int .i64 a8)])] (fun r=>(.agg (kI.enc (⟨⟨(((r.1).Lo).M),((r.1).Lo).E⟩,⟨(((r.1).Hi).M),((r.1).Hi).E⟩⟩:AI)))) (fun r=>[(.live 45 [(.int .i64 r.2),(.int .i64 a2)]),(.live 28 [(.ptr 0 0)]),(.live 34 [(.bool a3),(slK (kInt .u32) a4),(.int .i64 a5),(.bool a6),(slK (kInt .u32) a7),(.int .i64 a8)])]):=cc func105 (by kernel_rfl) rfl fun E=>by
 unfold small_plain_c50f
 refine .g 12 rfl<|.bind fun x2 h1=>.st rfl (cl (CC.h h1) [0,4,1,2] [] [true,false,false,false] rfl (.p rfl<|.a kI<|.cons (ren_fnL _ .nil (.p rfl<|.nil))<|.nil) (.p rfl (.i<|.i<|.nil) (.p rfl (.cons (ren_fnL _ .nil (.p rfl<|.p rfl<|.nil))<|.nil) (.p rfl (.p rfl<|.nil) (.p rfl (.b<|.l<|.i<|.b<|.l<|.i<|.nil) .nil)))) fnil (.cons (.v (.i<|.i<|.nil)) (.cons (.v (.cons (ren_fnL _ .nil (.p rfl<|.p rfl<|.nil))<|.nil)) (.cons (.v (.p rfl<|.nil)) (.cons (.v (.b<|.l<|.i<|.b<|.l<|.i<|.nil)) .nil)))) (ren_agg (K:=kI) _) (.turned (.kept rfl (.kept rfl (.kept rfl .nil)))) rfl) rfl<|.g 4 rfl<|.fi rfl rfl
instance small_Sin_i (a0:AI) (a1:Int) (a2:Int):CC (small_Sin a0 a1 a2) Tryz.prog 45 [(.ptr 0 0),(.agg (kI.enc a0))] [(.live 45 [(.int .i64 a1),(.int .i64 a2)])] (fun r=>(.agg (kI.enc (⟨⟨(((r.1).Lo).M),((r.1).Lo).E⟩,⟨(((r.1).Hi).M),((r.1).Hi).E⟩⟩:AI)))) (fun r=>[(.live 45 [(.int .i64 r.2),(.int .i64 a2)])]):=cc func45 (by kernel_rfl) rfl fun E=>by
 unfold small_Sin
 refine .g 12 rfl<|.bind fun x4 h1=>.st rfl (cl (CC.h h1) [0] [] [true] rfl (.p rfl<|.a kI<|.i<|.nil) (.p rfl (.i<|.i<|.nil) .nil) fnil (.cons (.v (.i<|.i<|.nil)) .nil) (.bool _) (.turned .nil) rfl) rfl<|.g 3 rfl<|?_
 refine .cd rfl (fun _ _=>?_) fun _ _=>?_
 ·refine .g 8 rfl<|.fi rfl rfl
 ·refine .g 7 rfl<|.bind fun x5 h4=>.st rfl (cl (CC.h h4) [0] [] [true] rfl (.p rfl<|.a kI<|.a kI<|.nil) (.p rfl (.i<|.i<|.nil) .nil) fnil (.cons (.v (.i<|.i<|.nil)) .nil) (ren_agg (K:=kI) _) (.turned .nil) rfl) rfl<|.g 9 rfl<|.bind fun x6 h5=>.st rfl (cl (CC.h h5) [0,1,4] [] [true,false,false] rfl (.p rfl<|.a kI<|.cons (ren_fnL _ .nil (.p rfl<|.p rfl<|.nil))<|.nil) (.p rfl (.i<|.i<|.nil) (.p rfl (.p rfl<|.nil) (.p rfl (.b<|.l<|.i<|.b<|.l<|.i<|.nil) .nil))) fnil (.cons (.v (.i<|.i<|.nil)) (.cons (.v (.p rfl<|.nil)) (.cons (.v (.b<|.l<|.i<|.b<|.l<|.i<|.nil)) .nil))) (ren_agg (K:=kI) _) (.turned (.kept rfl (.kept rfl .nil))) rfl) rfl<|.g 4 rfl<|.fi rfl rfl
instance small_Cos_1_i (a0:Int) (a1:AI) (a2:Int) (a3:Int) (a4:Bool) (a5:List Int) (a6:Int) (a7:Bool) (a8:List Int) (a9:Int):CC (small_Cos_1 a0 a1 a2 a3 a4 a5 a6 a7 a8 a9) Tryz.prog 111 [(.int .i64 a0),(.agg (kI.enc a1)),(.ptr 0 0),(.ptr 2 0)] [(.live 28 [(.ptr 1 0)]),(.live 45 [(.int .i64 a2),(.int .i64 a3)]),(.live 34 [(.bool a4),(slK (kInt .u32) a5),(.int .i64 a6),(.bool a7),(slK (kInt .u32) a8),(.int .i64 a9)])] (fun r=>(.agg (kI.enc (⟨⟨(((r.1).Lo).M),((r.1).Lo).E⟩,⟨(((r.1).Hi).M),((r.1).Hi).E⟩⟩:AI)))) (fun r=>[(.live 28 [(.ptr 1 0)]),(.live 45 [(.int .i64 r.2),(.int .i64 a3)]),(.live 34 [(.bool a4),(slK (kInt .u32) a5),(.int .i64 a6),(.bool a7),(slK (kInt .u32) a8),(.int .i64 a9)])]):=cc func111 (by kernel_rfl) rfl fun E=>by
 unfold small_Cos_1
 refine .g 17 rfl<|.bind fun x2 h1=>.st rfl (cl (CC.h h1) [1] [] [true] rfl (.p rfl<|.a kI<|.a kI<|.i<|.nil) (.p rfl (.i<|.i<|.nil) .nil) fnil (.cons (.v (.i<|.i<|.nil)) .nil) (ren_agg (K:=kI) _) (.turned .nil) rfl) rfl<|.g 4 rfl<|.fi rfl rfl
instance small_plain_1_b404_i (a0:Int) (a1:AI) (a2:Int) (a3:Int) (a4:Bool) (a5:List Int) (a6:Int) (a7:Bool) (a8:List Int) (a9:Int):CC (small_plain_1_b404 a0 a1 a2 a3 a4 a5 a6 a7 a8 a9) Tryz.prog 155 [(.int .i64 a0),(.agg (kI.enc a1)),(.ptr 0 0)] [(.live 112 [(.fn 111 [] [(.ptr 1 0),(.ptr 3 0)])]),(.live 28 [(.ptr 2 0)]),(.live 45 [(.int .i64 a2),(.int .i64 a3)]),(.live 34 [(.bool a4),(slK (kInt .u32) a5),(.int .i64 a6),(.bool a7),(slK (kInt .u32) a8),(.int .i64 a9)])] (fun r=>(.tup [(.agg (kI.enc (⟨⟨(((r.1).Lo).M),((r.1).Lo).E⟩,⟨(((r.1).Hi).M),((r.1).Hi).E⟩⟩:AI))),(.agg (kI.enc (⟨⟨(((r.2.1).Lo).M),((r.2.1).Lo).E⟩,⟨(((r.2.1).Hi).M),((r.2.1).Hi).E⟩⟩:AI)))])) (fun r=>[(.live 112 [(.fn 111 [] [(.ptr 1 0),(.ptr 3 0)])]),(.live 28 [(.ptr 2 0)]),(.live 45 [(.int .i64 r.2.2),(.int .i64 a3)]),(.live 34 [(.bool a4),(slK (kInt .u32) a5),(.int .i64 a6),(.bool a7),(slK (kInt .u32) a8),(.int .i64 a9)])]):=cc func155 (by kernel_rfl) rfl fun E=>by
 unfold small_plain_1_b404
 refine .g 12 rfl<|.bind fun x2 h1=>.st rfl (cl (CC.h h1) [1,2,3] [] [false,true,false] rfl (.i<|.a kI<|.p rfl<|.p rfl<|.nil) (.p rfl (.p rfl<|.nil) (.p rfl (.i<|.i<|.nil) (.p rfl (.b<|.l<|.i<|.b<|.l<|.i<|.nil) .nil))) fnil (.cons (.v (.p rfl<|.nil)) (.cons (.v (.i<|.i<|.nil)) (.cons (.v (.b<|.l<|.i<|.b<|.l<|.i<|.nil)) .nil))) (ren_agg (K:=kI) _) (.kept rfl (.turned (.kept rfl .nil))) rfl) rfl<|.g 9 rfl<|.dn (by kernel_rfl)<|.g 2 rfl<|.fi rfl rfl
instance small_series_7c7a_i (a0:AI) (a1:Int) (a2:Int) (a3:Bool) (a4:List Int) (a5:Int) (a6:Bool) (a7:List Int) (a8:Int):CC (small_series_7c7a a0 a1 a2 a3 a4 a5 a6 a7 a8) Tryz.prog 154 [(.ptr 0 0),(.agg (kI.enc a0)),(.fn 155 [] [(.ptr 1 0)])] [(.live 45 [(.int .i64 a1),(.int .i64 a2)]),(.live 112 [(.fn 111 [] [(.ptr 2 0),(.ptr 3 0)])]),(.live 28 [(.ptr 0 0)]),(.live 34 [(.bool a3),(slK (kInt .u32) a4),(.int .i64 a5),(.bool a6),(slK (kInt .u32) a7),(.int .i64 a8)])] (fun r=>(.agg (kI.enc (⟨⟨(((r.1).Lo).M),((r.1).Lo).E⟩,⟨(((r.1).Hi).M),((r.1).Hi).E⟩⟩:AI)))) (fun r=>[(.live 45 [(.int .i64 r.2),(.int .i64 a2)]),(.live 112 [(.fn 111 [] [(.ptr 2 0),(.ptr 3 0)])]),(.live 28 [(.ptr 0 0)]),(.live 34 [(.bool a3),(slK (kInt .u32) a4),(.int .i64 a5),(.bool a6),(slK (kInt .u32) a7),(.int .i64 a8)])]):=cc func154 (by kernel_rfl) rfl fun E=>by
 unfold small_series_7c7a
 refine .g 14 rfl<|.dn (by kernel_rfl)<|.g 5 rfl<|.bind fun x93 h1=>.st rfl (cl (CC.h h1) [0] [] [false] rfl (.p rfl<|.nil) (.p rfl (.i<|.i<|.nil) .nil) fnil (.cons (.v (.i<|.i<|.nil)) .nil) (.int _ _) (.kept rfl .nil) rfl) rfl<|.p0 rfl rfl fun x94 _=>.g 3 rfl<|?_
 refine .cut (fun x:Int × Bool × (List Int) × Int × Bool × (List Int) × Int=>(small_series_7c7a_j1 a2 x.1 x.2.1 x.2.2.1 x.2.2.2.1 x.2.2.2.2.1 x.2.2.2.2.2.1 x.2.2.2.2.2.2,[eP 0 0,eP 6 5,eP 7 6],[(0,(.live 45 [(.int .i64 x.1),(.int .i64 a2)])),(1,(.live 112 [(.fn 111 [] [(.ptr 2 0),(.ptr 3 0)])])),(2,(.live 28 [(.ptr 0 0)])),(3,(.live 34 [(.bool a3),(slK (kInt .u32) a4),(.int .i64 a5),(.bool a6),(slK (kInt .u32) a7),(.int .i64 a8)])),(5,(.live 34 [(.bool false),(slK (kInt .u32) []),(.int .i64 0),(.bool false),(slK (kInt .u32) []),(.int .i64 0)])),(6,(.live 34 [(.bool x.2.1),(slK (kInt .u32) x.2.2.1),(.int .i64 x.2.2.2.1),(.bool x.2.2.2.2.1),(slK (kInt .u32) x.2.2.2.2.2.1),(.int .i64 x.2.2.2.2.2.2)]))])) ?_ ?_
 ·rintro ⟨y135,y136,y137,y138,y139,y140,y141⟩
  dsimp only [small_series_7c7a_j1]
  refine .g 6 rfl<|.bind fun x142 h21=>.st rfl (cl (CC.h h21) [0] [] [false] rfl (.p rfl<|.nil) (.p rfl (.i<|.i<|.nil) .nil) fnil (.cons (.v (.i<|.i<|.nil)) .nil) (.int _ _) (.kept rfl .nil) rfl) rfl<|.g 1 rfl<|.p0 rfl rfl fun x143 _=>.bind fun x144 h23=>.st rfl (cl (CC.h h23) [0] [] [true] rfl (.p rfl<|.a kI<|.a kD<|.nil) (.p rfl (.i<|.i<|.nil) .nil) fnil (.cons (.v (.i<|.i<|.nil)) .nil) (ren_agg (K:=kI) _) (.turned .nil) rfl) rfl<|.g 1 rfl<|.dn (by kernel_rfl)<|.g 2 rfl<|.fi rfl rfl
 ·intro h24
  refine .g 1 rfl<|?_
  refine .lp (fun n (x:Int × Int × Bool × (List Int) × Int × Bool × (List Int) × Int × Bool × (List Int) × Int × Bool × (List Int) × Int)=>small_series_7c7a_l2 x94 a2 a3 a4 a5 a6 a7 a8 n x.1 x.2.1 x.2.2.1 x.2.2.2.1 x.2.2.2.2.1 x.2.2.2.2.2.1 x.2.2.2.2.2.2.1 x.2.2.2.2.2.2.2.1 x.2.2.2.2.2.2.2.2.1 x.2.2.2.2.2.2.2.2.2.1 x.2.2.2.2.2.2.2.2.2.2.1 x.2.2.2.2.2.2.2.2.2.2.2.1 x.2.2.2.2.2.2.2.2.2.2.2.2.1 x.2.2.2.2.2.2.2.2.2.2.2.2.2) (fun x=>([eP 0 0,(2,some (.fn 155 [] [(.ptr 1 0)])),eP 6 5,eP 7 6,eP 8 7,eI 15 x94,eI 16 x.1],[(0,(.live 45 [(.int .i64 x.2.1),(.int .i64 a2)])),(1,(.live 112 [(.fn 111 [] [(.ptr 2 0),(.ptr 3 0)])])),(2,(.live 28 [(.ptr 0 0)])),(3,(.live 34 [(.bool a3),(slK (kInt .u32) a4),(.int .i64 a5),(.bool a6),(slK (kInt .u32) a7),(.int .i64 a8)])),(5,(.live 34 [(.bool false),(slK (kInt .u32) []),(.int .i64 0),(.bool false),(slK (kInt .u32) []),(.int .i64 0)])),(6,(.live 34 [(.bool x.2.2.1),(slK (kInt .u32) x.2.2.2.1),(.int .i64 x.2.2.2.2.1),(.bool x.2.2.2.2.2.1),(slK (kInt .u32) x.2.2.2.2.2.2.1),(.int .i64 x.2.2.2.2.2.2.2.1)])),(7,(.live 34 [(.bool x.2.2.2.2.2.2.2.2.1),(slK (kInt .u32) x.2.2.2.2.2.2.2.2.2.1),(.int .i64 x.2.2.2.2.2.2.2.2.2.2.1),(.bool x.2.2.2.2.2.2.2.2.2.2.2.1),(slK (kInt .u32) x.2.2.2.2.2.2.2.2.2.2.2.2.1),(.int .i64 x.2.2.2.2.2.2.2.2.2.2.2.2.2)]))])) (0,a1,a0.Lo.M.Neg,a0.Lo.M.Mag,a0.Lo.E,a0.Hi.M.Neg,a0.Hi.M.Mag,a0.Hi.E,a0.Lo.M.Neg,a0.Lo.M.Mag,a0.Lo.E,a0.Hi.M.Neg,a0.Hi.M.Mag,a0.Hi.E) [(0,0),(1,1),(2,2),(3,3),(5,5),(6,6),(7,7)] rfl ?_
  rintro n2 ⟨y167,y168,y169,y170,y171,y172,y173,y174,y175,y176,y177,y178,y179,y180⟩
  try dsimp only
  rw [small_series_7c7a_l2]
  refine .g 6 rfl<|?_
  refine .cd rfl (fun _ _=>?_) fun _ _=>?_
  ·refine .g 21 rfl<|.bind fun x183 h41=>.st rfl (cl (CC.h h41) [1,2,0,3] [] [false,false,true,false] rfl (.i<|.a kI<|.p rfl<|.nil) (.p rfl (.cons (ren_fnL _ .nil (.p rfl<|.p rfl<|.nil))<|.nil) (.p rfl (.p rfl<|.nil) (.p rfl (.i<|.i<|.nil) (.p rfl (.b<|.l<|.i<|.b<|.l<|.i<|.nil) .nil)))) fnil (.cons (.v (.cons (ren_fnL _ .nil (.p rfl<|.p rfl<|.nil))<|.nil)) (.cons (.v (.p rfl<|.nil)) (.cons (.v (.i<|.i<|.nil)) (.cons (.v (.b<|.l<|.i<|.b<|.l<|.i<|.nil)) .nil)))) (ren_tupL (.a kI<|.a kI<|.nil)) (.kept rfl (.kept rfl (.turned (.kept rfl .nil)))) rfl) rfl<|.g 11 rfl<|.bind fun x184 h42=>.st rfl (cl (CC.h h42) [0] [] [true] rfl (.p rfl<|.a kI<|.a kI<|.nil) (.p rfl (.i<|.i<|.nil) .nil) fnil (.cons (.v (.i<|.i<|.nil)) .nil) (ren_agg (K:=kI) _) (.turned .nil) rfl) rfl<|.g 8 rfl<|.ag ((IntKind.i64.wrap (y167+1)),x184.2,(((x184.1).Lo).M).Neg,(((x184.1).Lo).M).Mag,((x184.1).Lo).E,(((x184.1).Hi).M).Neg,(((x184.1).Hi).M).Mag,((x184.1).Hi).E,(((x183.1).Lo).M).Neg,(((x183.1).Lo).M).Mag,((x183.1).Lo).E,(((x183.1).Hi).M).Neg,(((x183.1).Hi).M).Mag,((x183.1).Hi).E) [(0,0),(1,1),(2,2),(3,3),(5,5),(6,6),(7,7)] rfl
  ·refine .g 4 rfl<|.jw (h24 (y168,y169,y170,y171,y172,y173,y174)) [(0,0),(1,1),(2,2),(3,3),(5,5),(6,6)] rfl
instance small_plain_fc4a_i (a0:AI) (a1:Int) (a2:Int) (a3:Bool) (a4:List Int) (a5:Int) (a6:Bool) (a7:List Int) (a8:Int):CC (small_plain_fc4a a0 a1 a2 a3 a4 a5 a6 a7 a8) Tryz.prog 105 [(.ptr 0 0),(.agg (kI.enc a0)),(.fn 111 [] [(.ptr 1 0),(.ptr 2 0)])] [(.live 45 [(.int .i64 a1),(.int .i64 a2)]),(.live 28 [(.ptr 0 0)]),(.live 34 [(.bool a3),(slK (kInt .u32) a4),(.int .i64 a5),(.bool a6),(slK (kInt .u32) a7),(.int .i64 a8)])] (fun r=>(.agg (kI.enc (⟨⟨(((r.1).Lo).M),((r.1).Lo).E⟩,⟨(((r.1).Hi).M),((r.1).Hi).E⟩⟩:AI)))) (fun r=>[(.live 45 [(.int .i64 r.2),(.int .i64 a2)]),(.live 28 [(.ptr 0 0)]),(.live 34 [(.bool a3),(slK (kInt .u32) a4),(.int .i64 a5),(.bool a6),(slK (kInt .u32) a7),(.int .i64 a8)])]):=cc func105 (by kernel_rfl) rfl fun E=>by
 unfold small_plain_fc4a
 refine .g 12 rfl<|.bind fun x2 h1=>.st rfl (cl (CC.h h1) [0,4,1,2] [] [true,false,false,false] rfl (.p rfl<|.a kI<|.cons (ren_fnL _ .nil (.p rfl<|.nil))<|.nil) (.p rfl (.i<|.i<|.nil) (.p rfl (.cons (ren_fnL _ .nil (.p rfl<|.p rfl<|.nil))<|.nil) (.p rfl (.p rfl<|.nil) (.p rfl (.b<|.l<|.i<|.b<|.l<|.i<|.nil) .nil)))) fnil (.cons (.v (.i<|.i<|.nil)) (.cons (.v (.cons (ren_fnL _ .nil (.p rfl<|.p rfl<|.nil))<|.nil)) (.cons (.v (.p rfl<|.nil)) (.cons (.v (.b<|.l<|.i<|.b<|.l<|.i<|.nil)) .nil)))) (ren_agg (K:=kI) _) (.turned (.kept rfl (.kept rfl (.kept rfl .nil)))) rfl) rfl<|.g 4 rfl<|.fi rfl rfl
instance small_Cos_i (a0:AI) (a1:Int) (a2:Int):CC (small_Cos a0 a1 a2) Tryz.prog 46 [(.ptr 0 0),(.agg (kI.enc a0))] [(.live 45 [(.int .i64 a1),(.int .i64 a2)])] (fun r=>(.agg (kI.enc (⟨⟨(((r.1).Lo).M),((r.1).Lo).E⟩,⟨(((r.1).Hi).M),((r.1).Hi).E⟩⟩:AI)))) (fun r=>[(.live 45 [(.int .i64 r.2),(.int .i64 a2)])]):=cc func46 (by kernel_rfl) rfl fun E=>by
 unfold small_Cos
 refine .g 12 rfl<|.bind fun x5 h1=>.st rfl (cl (CC.h h1) [0] [] [true] rfl (.p rfl<|.a kI<|.i<|.nil) (.p rfl (.i<|.i<|.nil) .nil) fnil (.cons (.v (.i<|.i<|.nil)) .nil) (.bool _) (.turned .nil) rfl) rfl<|.g 3 rfl<|?_
 refine .cd rfl (fun _ _=>?_) fun _ _=>?_
 ·refine .g 8 rfl<|.fi rfl rfl
 ·refine .g 7 rfl<|.bind fun x6 h4=>.st rfl (cl (CC.h h4) [0] [] [true] rfl (.p rfl<|.a kI<|.a kI<|.nil) (.p rfl (.i<|.i<|.nil) .nil) fnil (.cons (.v (.i<|.i<|.nil)) .nil) (ren_agg (K:=kI) _) (.turned .nil) rfl) rfl<|.g 8 rfl<|.bind fun x7 h5=>.st rfl (cl (CC.h h5) [0] [] [true] rfl (.p rfl<|.i<|.nil) (.p rfl (.i<|.i<|.nil) .nil) fnil (.cons (.v (.i<|.i<|.nil)) .nil) (ren_agg (K:=kI) _) (.turned .nil) rfl) rfl<|.g 1 rfl<|.bind fun x8 h6=>.st rfl (cl (CC.h h6) [0,1,4] [] [true,false,false] rfl (.p rfl<|.a kI<|.cons (ren_fnL _ .nil (.p rfl<|.p rfl<|.nil))<|.nil) (.p rfl (.i<|.i<|.nil) (.p rfl (.p rfl<|.nil) (.p rfl (.b<|.l<|.i<|.b<|.l<|.i<|.nil) .nil))) fnil (.cons (.v (.i<|.i<|.nil)) (.cons (.v (.p rfl<|.nil)) (.cons (.v (.b<|.l<|.i<|.b<|.l<|.i<|.nil)) .nil))) (ren_agg (K:=kI) _) (.turned (.kept rfl (.kept rfl .nil))) rfl) rfl<|.g 1 rfl<|.dn (by kernel_rfl)<|.g 2 rfl<|.fi rfl rfl
instance r04_Same_i (a0:ApiInt) (a1:ApiInt):PC (r04_Same a0 a1) Tryz.prog 188 [(.agg (kN.enc a0)),(.agg (kN.enc a1))] (fun r=>(.bool r)):=pc func188 (by kernel_rfl) rfl fun E=>by
 unfold r04_Same
 refine .g 9 rfl<|?_
 refine .cut (fun x:Bool=>(r04_Same_j1 a0 a1 x,[eP 2 0,eP 3 1,eB 19 x],[(0,(.live 24 [(.bool a0.Neg),(slK (kInt .u32) a0.Mag)])),(1,(.live 24 [(.bool a1.Neg),(slK (kInt .u32) a1.Mag)]))])) ?_ ?_
 ·rintro y6
  dsimp only [r04_Same_j1]
  refine .g 1 rfl<|?_
  refine .cd rfl (fun _ _=>?_) fun _ _=>?_
  ·refine .g 7 rfl<|.fi rfl rfl
  ·refine .g 8 rfl<|?_
   refine .cut (fun x:Unit=>(r04_Same_j2,[],[])) ?_ ?_
   ·rintro _
    dsimp only [r04_Same_j2]
    refine .g 7 rfl<|.fi rfl rfl
   ·intro h34
    refine .g 1 rfl<|?_
    refine .lp (fun n (x:Int)=>r04_Same_l3 a0 a1 n x) (fun x=>([eP 2 0,eP 3 1,eI 5 x],[(0,(.live 24 [(.bool a0.Neg),(slK (kInt .u32) a0.Mag)])),(1,(.live 24 [(.bool a1.Neg),(slK (kInt .u32) a1.Mag)]))])) 0 [(0,0),(1,1)] rfl ?_
    rintro n3 y10
    try dsimp only
    rw [r04_Same_l3]
    refine .g 6 rfl<|.ln rfl rfl<|.g 3 rfl<|?_
    refine .cd rfl (fun _ _=>?_) fun _ _=>?_
    ·refine .g 9 rfl<|.ix rfl rfl<|.g 4 rfl<|.ix rfl rfl<|.g 2 rfl<|.dn (by kernel_rfl)<|.g 1 rfl<|?_
     refine .cd rfl (fun _ _=>?_) fun _ _=>?_
     ·refine .g 11 rfl<|.fi rfl rfl
     ·refine .g 8 rfl<|.ag (IntKind.i64.wrap (y10+1)) [(0,0),(1,1)] rfl
    ·refine .g 4 rfl<|.jw (h34 ()) [] rfl
 ·intro h65
  refine .g 7 rfl<|?_
  refine .gd 11 rfl (fun _=>?_) fun _=>?_
  ·refine .g 9 rfl<|.jw (h65 true) [(0,0),(1,1)] rfl
  ·refine .g 2 rfl<|.ln rfl rfl<|.g 2 rfl<|.ln rfl rfl<|.g 3 rfl<|.jw (h65 ((a0.Mag.length:Int) != (a1.Mag.length:Int))) [(0,0),(1,1)] rfl
instance r05_Same_i (a0:AD) (a1:AD):PC (r05_Same a0 a1) Tryz.prog 149 [(.agg (kD.enc a0)),(.agg (kD.enc a1))] (fun r=>(.bool r)):=pc func149 (by kernel_rfl) rfl fun E=>by
 unfold r05_Same
 refine .g 8 rfl<|?_
 refine .cut (fun x:Bool=>(r05_Same_j1 x,[eB 4 x],[])) ?_ ?_
 ·rintro y5
  dsimp only [r05_Same_j1]
  refine .g 2 rfl<|.fi rfl rfl
 ·intro h3
  refine .g 7 rfl<|?_
  refine .gd 10 rfl (fun _=>?_) fun _=>?_
  ·refine .g 4 rfl<|.p0 rfl rfl fun x6 _=>.g 3 rfl<|.jw (h3 x6) [] rfl
  ·refine .g 8 rfl<|.jw (h3 false) [] rfl
instance r06_Same_i (a0:AI) (a1:AI):PC (r06_Same a0 a1) Tryz.prog 93 [(.agg (kI.enc a0)),(.agg (kI.enc a1))] (fun r=>(.bool r)):=pc func93 (by kernel_rfl) rfl fun E=>by
 unfold r06_Same
 refine .g 8 rfl<|?_
 refine .cut (fun x:Bool=>(r06_Same_j1 x,[eB 4 x],[])) ?_ ?_
 ·rintro y8
  dsimp only [r06_Same_j1]
  refine .g 2 rfl<|.fi rfl rfl
 ·intro h4
  refine .g 5 rfl<|.p0 rfl rfl fun x9 _=>.g 1 rfl<|?_
  refine .gd 10 rfl (fun _=>?_) fun _=>?_
  ·refine .g 4 rfl<|.p0 rfl rfl fun x10 _=>.g 3 rfl<|.jw (h4 x10) [] rfl
  ·refine .g 8 rfl<|.jw (h4 false) [] rfl
instance l07_same_i (a0:AI) (a1:AI):PC (l07_same a0 a1) Tryz.prog 47 [(.agg (kI.enc a0)),(.agg (kI.enc a1))] (fun r=>(.bool r)):=pc func47 (by kernel_rfl) rfl fun E=>by
 unfold l07_same
 refine .g 11 rfl<|.p0 rfl rfl fun x2 _=>.g 4 rfl<|.fi rfl rfl
instance l07_SmallCircle_i (a0:AD) (a1:Int):PC (l07_SmallCircle a0 a1) Tryz.prog 8 [(.agg (kD.enc a0)),(.int .i64 a1)] (fun r=>(.bool r)):=pc func8 (by kernel_rfl) rfl fun E=>by
 unfold l07_SmallCircle
 refine .g 8 rfl<|.p0 rfl rfl fun x25 _=>.g 10 rfl<|?_
 refine .cd rfl (fun _ _=>?_) fun _ _=>?_
 ·refine .g 7 rfl<|.fi rfl rfl
 ·refine .g 5 rfl<|.p0 rfl rfl fun x26 _=>.bind fun x27 h5=>?_
  rcases x27 with x28 | x29
  ·dsimp only
   refine .st rfl (cl (iv_New_k_0 h5) [] [1] [true] rfl (.i<|.nil) .nil (fresh_cons rfl fnil) (.cons .dead .nil) (ren_tupL (.cons .nilptr<|.i<|.nil)) (.turned .nil) rfl) rfl<|.g 26 rfl<|.fi rfl rfl
  ·dsimp only
   refine .st rfl (cl (iv_New_k_1 h5) [] [1] [true] rfl (.i<|.nil) .nil (fresh_cons rfl fnil) (.cons (.v (.i<|.i<|.nil)) .nil) (ren_tupL (.p rfl<|.i<|.nil)) (.turned .nil) rfl) rfl<|.g 18 rfl<|?_
   refine .cd rfl (fun _ _=>?_) fun _ _=>?_
   ·refine .g 7 rfl<|.fi rfl rfl
   ·refine .g 6 rfl<|.p0 rfl rfl fun x30 _=>.bind fun x31 h9=>.st rfl (cl (CC.h h9) [1] [] [true] rfl (.p rfl<|.a kD<|.nil) (.p rfl (.i<|.i<|.nil) .nil) fnil (.cons (.v (.i<|.i<|.nil)) .nil) (ren_agg (K:=kI) _) (.turned .nil) rfl) rfl<|.g 8 rfl<|.bind fun x32 h10=>.st rfl (cl (CC.h h10) [1] [] [true] rfl (.p rfl<|.a kI<|.nil) (.p rfl (.i<|.i<|.nil) .nil) fnil (.cons (.v (.i<|.i<|.nil)) .nil) (ren_agg (K:=kI) _) (.turned .nil) rfl) rfl<|.g 8 rfl<|.bind fun x33 h11=>.st rfl (cl (CC.h h11) [1] [] [true] rfl (.p rfl<|.a kI<|.nil) (.p rfl (.i<|.i<|.nil) .nil) fnil (.cons (.v (.i<|.i<|.nil)) .nil) (ren_agg (K:=kI) _) (.turned .nil) rfl) rfl<|.g 10 rfl<|.bind fun x34 h12=>.st rfl (cl (CC.h h12) [1] [] [true] rfl (.p rfl<|.a kI<|.a kI<|.nil) (.p rfl (.i<|.i<|.nil) .nil) fnil (.cons (.v (.i<|.i<|.nil)) .nil) (ren_agg (K:=kI) _) (.turned .nil) rfl) rfl<|.g 3 rfl<|?_
    refine .bind fun x35 h13=>.st rfl (cl (CC.h h13) [1] [] [true] rfl (.p rfl<|.a kI<|.a kI<|.nil) (.p rfl (.i<|.i<|.nil) .nil) fnil (.cons (.v (.i<|.i<|.nil)) .nil) (ren_agg (K:=kI) _) (.turned .nil) rfl) rfl<|.bind fun x36 h14=>.st rfl (cl (CC.h h14) [1] [] [true] rfl (.p rfl<|.a kI<|.a kI<|.nil) (.p rfl (.i<|.i<|.nil) .nil) fnil (.cons (.v (.i<|.i<|.nil)) .nil) (ren_agg (K:=kI) _) (.turned .nil) rfl) rfl<|.p0 rfl rfl fun x37 _=>.p0 rfl rfl fun x38 _=>.g 1 rfl<|.dn (by kernel_rfl)<|.g 6 rfl<|.bind fun x39 h17=>.st rfl (cl (CC.h h17) [1] [] [true] rfl (.p rfl<|.a kI<|.nil) (.p rfl (.i<|.i<|.nil) .nil) fnil (.cons (.v (.i<|.i<|.nil)) .nil) (ren_agg (K:=kI) _) (.turned .nil) rfl) rfl<|.bind fun x40 h18=>.st rfl (cl (CC.h h18) [1] [] [true] rfl (.p rfl<|.a kI<|.nil) (.p rfl (.i<|.i<|.nil) .nil) fnil (.cons (.v (.i<|.i<|.nil)) .nil) (ren_agg (K:=kI) _) (.turned .nil) rfl) rfl<|.g 2 rfl<|?_
    refine .bind fun x41 h19=>.st rfl (cl (CC.h h19) [1] [] [true] rfl (.p rfl<|.a kI<|.nil) (.p rfl (.i<|.i<|.nil) .nil) fnil (.cons (.v (.i<|.i<|.nil)) .nil) (ren_agg (K:=kI) _) (.turned .nil) rfl) rfl<|.p0 rfl rfl fun x42 _=>.g 1 rfl<|.dn (by kernel_rfl)<|.g 6 rfl<|.bind fun x43 h21=>.st rfl (cl (CC.h h21) [1] [] [true] rfl (.p rfl<|.a kI<|.nil) (.p rfl (.i<|.i<|.nil) .nil) fnil (.cons (.v (.i<|.i<|.nil)) .nil) (ren_agg (K:=kI) _) (.turned .nil) rfl) rfl<|.bind fun x44 h22=>.st rfl (cl (CC.h h22) [1] [] [true] rfl (.p rfl<|.a kI<|.nil) (.p rfl (.i<|.i<|.nil) .nil) fnil (.cons (.v (.i<|.i<|.nil)) .nil) (ren_agg (K:=kI) _) (.turned .nil) rfl) rfl<|.g 1 rfl<|.p0 rfl rfl fun x45 _=>.g 1 rfl<|.dn (by kernel_rfl)<|?_
    refine .g 2 rfl<|?_
    refine .cut (fun x:Bool=>(l07_SmallCircle_j1 x,[eB 4 x],[])) ?_ ?_
    ·rintro y47
     dsimp only [l07_SmallCircle_j1]
     refine .g 2 rfl<|.fi rfl rfl
    ·intro h29
     refine .g 3 rfl<|?_
     refine .gd 68 rfl (fun _=>?_) fun _=>?_
     ·refine .g 3 rfl<|?_
      refine .gd 71 rfl (fun _=>?_) fun _=>?_
      ·refine .g 3 rfl<|?_
       refine .gd 74 rfl (fun _=>?_) fun _=>?_
       ·refine .g 3 rfl<|?_
        refine .gd 77 rfl (fun _=>?_) fun _=>?_
        ·refine .g 3 rfl<|.bind fun x48 h34=>.st rfl (cl (CC.h h34) [1] [] [false] rfl (.p rfl<|.nil) (.p rfl (.i<|.i<|.nil) .nil) fnil (.cons (.v (.i<|.i<|.nil)) .nil) (.int _ _) (.kept rfl .nil) rfl) rfl<|.g 4 rfl<|.jw (h29 (x48 == 0)) [] rfl
        ·refine .g 8 rfl<|.jw (h29 false) [] rfl
       ·refine .g 11 rfl<|.jw (h29 false) [] rfl
      ·refine .g 14 rfl<|.jw (h29 false) [] rfl
     ·refine .g 17 rfl<|.jw (h29 false) [] rfl
end Go.Proofs.YtpmpcohbpankaaaGreat.Gen
