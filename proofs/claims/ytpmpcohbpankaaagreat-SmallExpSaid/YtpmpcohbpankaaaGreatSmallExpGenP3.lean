/- Printed by geng.py: a call does what the plain function says. -/
import Derived.Test.YtpmpcohbpankaaaGreatSmallExpGenP2
set_option maxRecDepth 4000
namespace Go.Proofs.YtpmpcohbpankaaaGreat.Gen
open Go Go.Abs Go.Proofs Go.Proofs.Tryz
instance l07_examples_i:PC (l07_examples) Tryz.prog 40 [] (fun r=>(.bool r)):=pc func40 (by kernel_rfl) rfl fun E=>by
 unfold l07_examples
 refine .g 7 rfl<|.bind fun x15 h1=>?_
 rcases x15 with x16 | x17
 ·dsimp only
  refine .st rfl (cl (iv_New_k_0 h1) [] [0] [true] rfl (.i<|.nil) .nil (fresh_cons rfl fnil) (.cons .dead .nil) (ren_tupL (.cons .nilptr<|.i<|.nil)) (.turned .nil) rfl) rfl<|.g 26 rfl<|.fi rfl rfl
 ·dsimp only
  refine .st rfl (cl (iv_New_k_1 h1) [] [0] [true] rfl (.i<|.nil) .nil (fresh_cons rfl fnil) (.cons (.v (.i<|.i<|.nil)) .nil) (ren_tupL (.p rfl<|.i<|.nil)) (.turned .nil) rfl) rfl<|.g 18 rfl<|?_
  refine .cd rfl (fun _ _=>?_) fun _ _=>?_
  ·refine .g 7 rfl<|.fi rfl rfl
  ·refine .g 6 rfl<|.bind fun x18 h4=>.st rfl (cl (CC.h h4) [0] [] [true] rfl (.p rfl<|.i<|.nil) (.p rfl (.i<|.i<|.nil) .nil) fnil (.cons (.v (.i<|.i<|.nil)) .nil) (ren_agg (K:=kI) _) (.turned .nil) rfl) rfl<|.bind fun x19 h5=>.st rfl (cl (CC.h h5) [0] [] [true] rfl (.p rfl<|.a kI<|.nil) (.p rfl (.i<|.i<|.nil) .nil) fnil (.cons (.v (.i<|.i<|.nil)) .nil) (ren_agg (K:=kI) _) (.turned .nil) rfl) rfl<|.g 5 rfl<|?_
   refine .cut (fun x:Bool=>(l07_examples_j1 x,[eB 0 x],[])) ?_ ?_
   ·rintro y24
    dsimp only [l07_examples_j1]
    refine .g 2 rfl<|.fi rfl rfl
   ·intro h12
    refine .g 1 rfl<|.p0 rfl rfl fun x25 _=>.g 2 rfl<|?_
    refine .gd 20 rfl (fun _=>?_) fun _=>?_
    ·refine .g 1 rfl<|.p0 rfl rfl fun x26 _=>.p0 rfl rfl fun x27 _=>.g 2 rfl<|?_
     refine .gd 25 rfl (fun _=>?_) fun _=>?_
     ·refine .g 3 rfl<|.bind fun x28 h18=>.st rfl (cl (CC.h h18) [0] [] [false] rfl (.p rfl<|.nil) (.p rfl (.i<|.i<|.nil) .nil) fnil (.cons (.v (.i<|.i<|.nil)) .nil) (.int _ _) (.kept rfl .nil) rfl) rfl<|.g 3 rfl<|.dn (by kernel_rfl)<|.jw (h12 (x28 == 0)) [] rfl
     ·refine .g 7 rfl<|.dn (by kernel_rfl)<|.jw (h12 false) [] rfl
    ·refine .g 12 rfl<|.dn (by kernel_rfl)<|.jw (h12 false) [] rfl
instance l07_prec_i (a0:Int):PC (l07_prec a0) Tryz.prog 41 [(.int .i64 a0)] (fun r=>(.int .i64 r)):=pc func41 (by kernel_rfl) rfl fun E=>by
 unfold l07_prec
 refine .g 12 rfl<|?_
 refine .cut (fun x:Int=>(l07_prec_j1 x,[eI 0 x],[])) ?_ ?_
 ·rintro y2
  dsimp only [l07_prec_j1]
  refine .g 10 rfl<|.fi rfl rfl
 ·intro h3
  refine .cd rfl (fun _ _=>?_) fun _ _=>?_
  ·refine .g 6 rfl<|.jw (h3 (IntKind.i64.wrap (0-(IntKind.i64.wrap (a0+1))))) [] rfl
  ·refine .g 1 rfl<|.jw (h3 a0) [] rfl
instance r01_Bits_i (a0:List Int):PC (r01_Bits a0) Tryz.prog 183 [(slK (kInt .u32) a0)] (fun r=>(.int .i64 r)):=pc func183 (by kernel_rfl) rfl fun E=>by
 unfold r01_Bits
 refine .g 8 rfl<|.p0 rfl rfl fun x11 _=>.g 7 rfl<|.ln rfl rfl<|.g 3 rfl<|?_
 refine .cd rfl (fun _ _=>?_) fun _ _=>?_
 ·refine .g 7 rfl<|.fi rfl rfl
 ·refine .g 5 rfl<|.ln rfl rfl<|.g 10 rfl<|.ln rfl rfl<|.g 1 rfl<|.ix rfl rfl<|.g 4 rfl<|?_
  refine .cut (fun x:Int=>(r01_Bits_j1 x,[eI 4 x],[])) ?_ ?_
  ·rintro y16
   dsimp only [r01_Bits_j1]
   refine .g 8 rfl<|.fi rfl rfl
  ·intro h11
   refine .g 1 rfl<|?_
   refine .lp (fun n (x:Int × Int)=>r01_Bits_l2 n x.1 x.2) (fun x=>([eI 4 x.1,eW 5 x.2],[])) ((IntKind.i64.wrap (32*(IntKind.i64.wrap ((x11.length:Int)-1)))),(x11.getD ((IntKind.i64.wrap ((x11.length:Int)-1)).toNat) (kInt .u32).z)) [] rfl ?_
   rintro n2 ⟨y19,y20⟩
   try dsimp only
   rw [r01_Bits_l2]
   refine .g 7 rfl<|?_
   refine .cd rfl (fun _ _=>?_) fun _ _=>?_
   ·refine .g 16 rfl<|.ag ((IntKind.i64.wrap (y19+1)),(shrI .u32 y20 1)) [] rfl
   ·refine .g 4 rfl<|.jw (h11 y19) [] rfl
instance r05_size_i (a0:AD):PC (r05_size a0) Tryz.prog 132 [(.agg (kD.enc a0))] (fun r=>(.int .i64 r)):=pc func132 (by kernel_rfl) rfl fun E=>by
 unfold r05_size
 refine .g 13 rfl<|.p0 rfl rfl fun x2 _=>.g 2 rfl<|.dn (by kernel_rfl)<|.g 2 rfl<|.fi rfl rfl
instance r05_inRange_i (a0:AD):PC (r05_inRange a0) Tryz.prog 152 [(.agg (kD.enc a0))] (fun r=>(.bool r)):=pc func152 (by kernel_rfl) rfl fun E=>by
 unfold r05_inRange
 refine .g 12 rfl<|.ln rfl rfl<|.g 3 rfl<|?_
 refine .cd rfl (fun _ _=>?_) fun _ _=>?_
 ·refine .g 7 rfl<|.fi rfl rfl
 ·refine .g 5 rfl<|.p0 rfl rfl fun x5 _=>.g 4 rfl<|?_
  refine .cut (fun x:Bool=>(r05_inRange_j1 x,[eB 2 x],[])) ?_ ?_
  ·rintro y7
   dsimp only [r05_inRange_j1]
   refine .g 2 rfl<|.fi rfl rfl
  ·intro h9
   refine .g 4 rfl<|?_
   refine .gd 13 rfl (fun _=>?_) fun _=>?_
   ·refine .g 4 rfl<|?_
    refine .gd 17 rfl (fun _=>?_) fun _=>?_
    ·refine .g 5 rfl<|?_
     refine .gd 22 rfl (fun _=>?_) fun _=>?_
     ·refine .g 5 rfl<|?_
      refine .gd 27 rfl (fun _=>?_) fun _=>?_
      ·refine .g 3 rfl<|.p0 rfl rfl fun x8 _=>.g 4 rfl<|.jw (h9 (decide (x8≤262144))) [] rfl
      ·refine .g 8 rfl<|.jw (h9 false) [] rfl
     ·refine .g 13 rfl<|.jw (h9 false) [] rfl
    ·refine .g 18 rfl<|.jw (h9 false) [] rfl
   ·refine .g 22 rfl<|.jw (h9 false) [] rfl
instance r05_Make_i (a0:ApiInt) (a1:Int):PC (r05_Make a0 a1) Tryz.prog 102 [(.agg (kN.enc a0)),(.int .i64 a1)] (fun r=>(.tup [(.agg (kD.enc (⟨((r.1).M),(r.1).E⟩:AD))),(.bool r.2)])):=pc func102 (by kernel_rfl) rfl fun E=>by
 unfold r05_Make
 refine .g 9 rfl<|?_
 refine .cut (fun x:Bool=>(r05_Make_j1 a0 a1 x,[eI 1 a1,eP 2 0,eP 4 1,eB 13 x],[(0,(.live 24 [(.bool a0.Neg),(slK (kInt .u32) a0.Mag)])),(1,(.live 26 [(.bool false),(slK (kInt .u32) []),(.int .i64 0)]))])) ?_ ?_
 ·rintro y4
  dsimp only [r05_Make_j1]
  refine .g 1 rfl<|?_
  refine .cd rfl (fun _ _=>?_) fun _ _=>?_
  ·refine .g 9 rfl<|.fi rfl rfl
  ·refine .g 6 rfl<|.p0 rfl rfl fun x5 _=>.g 7 rfl<|.p0 rfl rfl fun x6 _=>.g 10 rfl<|?_
   refine .cd rfl (fun _ _=>?_) fun _ _=>?_
   ·refine .g 9 rfl<|.fi rfl rfl
   ·refine .g 10 rfl<|.fi rfl rfl
 ·intro h8
  refine .g 4 rfl<|?_
  refine .gd 10 rfl (fun _=>?_) fun _=>?_
  ·refine .g 4 rfl<|.jw (h8 true) [(0,0),(1,1)] rfl
  ·refine .g 4 rfl<|.jw (h8 (decide (a1>100000))) [(0,0),(1,1)] rfl
instance l07_tame_i (a0:AD) (a1:Int) (a2:Int):PC (l07_tame a0 a1 a2) Tryz.prog 42 [(.agg (kD.enc a0)),(.int .i64 a1),(.int .i64 a2)] (fun r=>(.agg (kD.enc (⟨((r).M),(r).E⟩:AD)))):=pc func42 (by kernel_rfl) rfl fun E=>by
 unfold l07_tame
 refine .g 17 rfl<|.ln rfl rfl<|.g 2 rfl<|.guard fun h1=>.sv (slK (kInt .u32) (a0.M.Mag.take ((mn (a0.M.Mag.length:Int) a1).toNat))) [] rfl (snd_sliceK (kInt .u32) _ _ _ _ _ _ 0 (mn (a0.M.Mag.length:Int) a1) rfl underlying22 si77 rfl rfl rfl rfl rfl h1) rfl<|.p0 rfl rfl fun x3 _=>.g 4 rfl<|.p0 rfl rfl fun x4 _=>.g 6 rfl<|.dn (by kernel_rfl)<|.g 8 rfl<|.fi rfl rfl
instance cv_Meet_i (a0:AI) (a1:AI) (a2:Int) (a3:Int):CC (cv_Meet a0 a1 a2 a3) Tryz.prog 36 [(.ptr 0 0),(.agg (kI.enc a0)),(.agg (kI.enc a1))] [(.live 45 [(.int .i64 a2),(.int .i64 a3)])] (fun r=>(.agg (kI.enc (⟨⟨(((r.1).Lo).M),((r.1).Lo).E⟩,⟨(((r.1).Hi).M),((r.1).Hi).E⟩⟩:AI)))) (fun r=>[(.live 45 [(.int .i64 r.2),(.int .i64 a3)])]):=cc func36 (by kernel_rfl) rfl fun E=>by
 unfold cv_Meet
 refine .g 13 rfl<|.st rfl (bs kI [a0,a1] rfl rfl) rfl<|.bind fun x6 h1=>.st rfl (cl (CC.h h1) [0] [] [true] rfl (.p rfl<|.l<|.nil) (.p rfl (.i<|.i<|.nil) .nil) fnil (.cons (.v (.i<|.i<|.nil)) .nil) (.bool _) (.turned .nil) rfl) rfl<|.g 3 rfl<|?_
 refine .cd rfl (fun _ _=>?_) fun _ _=>?_
 ·refine .g 8 rfl<|.fi rfl rfl
 ·refine .g 8 rfl<|.st rfl (bs kD [a0.Lo,a1.Lo] rfl rfl) rfl<|.p0 rfl rfl fun x7 _=>.g 15 rfl<|.st rfl (bs kD [a0.Hi,a1.Hi] rfl rfl) rfl<|.p0 rfl rfl fun x8 _=>.g 14 rfl<|.p0 rfl rfl fun x9 _=>.g 3 rfl<|?_
  refine .cd rfl (fun _ _=>?_) fun _ _=>?_
  ·refine .g 5 rfl<|.bind fun x10 h9=>.st rfl (cl (CC.h h9) [0] [] [true] rfl (.p rfl<|.i<|.nil) (.p rfl (.i<|.i<|.nil) .nil) fnil (.cons (.v (.i<|.i<|.nil)) .nil) (.bool _) (.turned .nil) rfl) rfl<|.g 10 rfl<|.fi rfl rfl
  ·refine .g 11 rfl<|.fi rfl rfl
instance l07_SmallExp_i (a0:AD) (a1:AD) (a2:Int):PC (l07_SmallExp a0 a1 a2) Tryz.prog 7 [(.agg (kD.enc a0)),(.agg (kD.enc a1)),(.int .i64 a2)] (fun r=>(.bool r)):=pc func7 (by kernel_rfl) rfl fun E=>by
 unfold l07_SmallExp
 refine .g 9 rfl<|.p0 rfl rfl fun x24 _=>.g 10 rfl<|?_
 refine .cd rfl (fun _ _=>?_) fun _ _=>?_
 ·refine .g 7 rfl<|.fi rfl rfl
 ·refine .g 5 rfl<|.p0 rfl rfl fun x25 _=>.bind fun x26 h5=>?_
  rcases x26 with x27 | x28
  ·dsimp only
   refine .st rfl (cl (iv_New_k_0 h5) [] [2] [true] rfl (.i<|.nil) .nil (fresh_cons rfl fnil) (.cons .dead .nil) (ren_tupL (.cons .nilptr<|.i<|.nil)) (.turned .nil) rfl) rfl<|.g 26 rfl<|.fi rfl rfl
  ·dsimp only
   refine .st rfl (cl (iv_New_k_1 h5) [] [2] [true] rfl (.i<|.nil) .nil (fresh_cons rfl fnil) (.cons (.v (.i<|.i<|.nil)) .nil) (ren_tupL (.p rfl<|.i<|.nil)) (.turned .nil) rfl) rfl<|.g 18 rfl<|?_
   refine .cd rfl (fun _ _=>?_) fun _ _=>?_
   ·refine .g 7 rfl<|.fi rfl rfl
   ·refine .g 6 rfl<|.p0 rfl rfl fun x29 _=>.bind fun x30 h9=>.st rfl (cl (CC.h h9) [2] [] [true] rfl (.p rfl<|.a kD<|.nil) (.p rfl (.i<|.i<|.nil) .nil) fnil (.cons (.v (.i<|.i<|.nil)) .nil) (ren_agg (K:=kI) _) (.turned .nil) rfl) rfl<|.g 8 rfl<|.p0 rfl rfl fun x31 _=>.bind fun x32 h11=>.st rfl (cl (CC.h h11) [2] [] [true] rfl (.p rfl<|.a kD<|.nil) (.p rfl (.i<|.i<|.nil) .nil) fnil (.cons (.v (.i<|.i<|.nil)) .nil) (ren_agg (K:=kI) _) (.turned .nil) rfl) rfl<|.g 8 rfl<|.bind fun x33 h12=>.st rfl (cl (CC.h h12) [2] [] [true] rfl (.p rfl<|.a kI<|.nil) (.p rfl (.i<|.i<|.nil) .nil) fnil (.cons (.v (.i<|.i<|.nil)) .nil) (ren_agg (K:=kI) _) (.turned .nil) rfl) rfl<|.g 8 rfl<|.bind fun x34 h13=>.st rfl (cl (CC.h h13) [2] [] [true] rfl (.p rfl<|.a kI<|.nil) (.p rfl (.i<|.i<|.nil) .nil) fnil (.cons (.v (.i<|.i<|.nil)) .nil) (ren_agg (K:=kI) _) (.turned .nil) rfl) rfl<|?_
    refine .g 11 rfl<|.bind fun x35 h14=>.st rfl (cl (CC.h h14) [2] [] [true] rfl (.p rfl<|.a kI<|.nil) (.p rfl (.i<|.i<|.nil) .nil) fnil (.cons (.v (.i<|.i<|.nil)) .nil) (ren_agg (K:=kI) _) (.turned .nil) rfl) rfl<|.bind fun x36 h15=>.st rfl (cl (CC.h h15) [2] [] [true] rfl (.p rfl<|.a kI<|.nil) (.p rfl (.i<|.i<|.nil) .nil) fnil (.cons (.v (.i<|.i<|.nil)) .nil) (ren_agg (K:=kI) _) (.turned .nil) rfl) rfl<|.bind fun x37 h16=>.st rfl (cl (CC.h h16) [2] [] [true] rfl (.p rfl<|.a kI<|.a kI<|.nil) (.p rfl (.i<|.i<|.nil) .nil) fnil (.cons (.v (.i<|.i<|.nil)) .nil) (ren_agg (K:=kI) _) (.turned .nil) rfl) rfl<|.p0 rfl rfl fun x38 _=>.p0 rfl rfl fun x39 _=>.g 1 rfl<|.dn (by kernel_rfl)<|.g 8 rfl<|.bind fun x40 h19=>.st rfl (cl (CC.h h19) [2] [] [true] rfl (.p rfl<|.a kI<|.a kI<|.nil) (.p rfl (.i<|.i<|.nil) .nil) fnil (.cons (.v (.i<|.i<|.nil)) .nil) (ren_agg (K:=kI) _) (.turned .nil) rfl) rfl<|?_
    refine .bind fun x41 h20=>.st rfl (cl (CC.h h20) [2] [] [true] rfl (.p rfl<|.a kI<|.nil) (.p rfl (.i<|.i<|.nil) .nil) fnil (.cons (.v (.i<|.i<|.nil)) .nil) (ren_agg (K:=kI) _) (.turned .nil) rfl) rfl<|.g 3 rfl<|.bind fun x42 h21=>.st rfl (cl (CC.h h21) [2] [] [true] rfl (.p rfl<|.a kI<|.a kI<|.nil) (.p rfl (.i<|.i<|.nil) .nil) fnil (.cons (.v (.i<|.i<|.nil)) .nil) (ren_agg (K:=kI) _) (.turned .nil) rfl) rfl<|.bind fun x43 h22=>.st rfl (cl (CC.h h22) [2] [] [true] rfl (.p rfl<|.a kI<|.a kI<|.nil) (.p rfl (.i<|.i<|.nil) .nil) fnil (.cons (.v (.i<|.i<|.nil)) .nil) (ren_agg (K:=kI) _) (.turned .nil) rfl) rfl<|.dn (by kernel_rfl)<|.g 2 rfl<|?_
    refine .cut (fun x:Bool=>(l07_SmallExp_j1 x,[eB 6 x],[])) ?_ ?_
    ·rintro y45
     dsimp only [l07_SmallExp_j1]
     refine .g 2 rfl<|.fi rfl rfl
    ·intro h26
     refine .g 3 rfl<|?_
     refine .gd 67 rfl (fun _=>?_) fun _=>?_
     ·refine .g 3 rfl<|?_
      refine .gd 70 rfl (fun _=>?_) fun _=>?_
      ·refine .g 3 rfl<|.bind fun x46 h29=>.st rfl (cl (CC.h h29) [2] [] [false] rfl (.p rfl<|.nil) (.p rfl (.i<|.i<|.nil) .nil) fnil (.cons (.v (.i<|.i<|.nil)) .nil) (.int _ _) (.kept rfl .nil) rfl) rfl<|.g 4 rfl<|.jw (h26 (x46 == 0)) [] rfl
      ·refine .g 8 rfl<|.jw (h26 false) [] rfl
     ·refine .g 11 rfl<|.jw (h26 false) [] rfl
end Go.Proofs.YtpmpcohbpankaaaGreat.Gen
