/- Printed by geng.py: a call does what the plain function says. -/
import Derived.Test.YtjffljhmjdljeaaGreatErffRisesGenP3
set_option linter.unusedVariables false
set_option linter.unusedSimpArgs false
set_option maxRecDepth 4000
namespace Go.Proofs.YtjffljhmjdljeaaGreat.Gen
open Go Go.Abs Go.Proofs Go.Proofs.Tryz
instance konst_Pi_i (a0:Int) (a1:Int):CC (konst_Pi a0 a1) Tryz.prog 26 [(.ptr 0 0)] [(.live 54 [(.int .i64 a0),(.int .i64 a1)])] (fun r=>(.agg (kI.enc (⟨⟨(((r.1).Lo).M),((r.1).Lo).E⟩,⟨(((r.1).Hi).M),((r.1).Hi).E⟩⟩:AI)))) (fun r=>[(.live 54 [(.int .i64 r.2),(.int .i64 a1)])]):=cc func26 (by kernel_rfl) rfl fun E=>by
 unfold konst_Pi
 refine .g 10 rfl<|.sv (.sl [[(.fn 66 [] []),(.int .i64 5),(.int .i64 4)],[(.fn 66 [] []),(.int .i64 239),(.int .i64 2)]]) [] rfl (snd_buildSlice _ _ _ 3 _ _ [(0,(.agg [(.fn 66 [] []),(.int .i64 5),(.int .i64 4)])),(1,(.agg [(.fn 66 [] []),(.int .i64 239),(.int .i64 2)]))] [[(.fn 66 [] []),(.int .i64 5),(.int .i64 4)],[(.fn 66 [] []),(.int .i64 239),(.int .i64 2)]] rfl underlying149 ze99 si99 rfl rfl rfl (by decide) (by decide) (by decide) rfl rfl (by intro e he; simp at he; rcases he with rfl | rfl<;>rfl) rfl) rfl<|.bind fun x3 h1=>.st rfl (cl (CC.h h1) [0] [] [true] rfl (.p rfl<|.cons (ren_slL (.cons (.cons (ren_fnL _ .nil .nil)<|.i<|.i<|.nil) (.cons (.cons (ren_fnL _ .nil .nil)<|.i<|.i<|.nil) .nil)))<|.nil) (.p rfl (.i<|.i<|.nil) .nil) fnil (.cons (.v (.i<|.i<|.nil)) .nil) (ren_sl _) (.turned .nil) rfl) rfl<|.g 7 rfl<|.ix rfl rfl<|.g 2 rfl<|.ix rfl rfl<|.g 1 rfl<|.bind fun x4 h4=>.st rfl (cl (CC.h h4) [0] [] [true] rfl (.p rfl<|.a kI<|.a kI<|.nil) (.p rfl (.i<|.i<|.nil) .nil) fnil (.cons (.v (.i<|.i<|.nil)) .nil) (ren_agg (K:=kI) _) (.turned .nil) rfl) rfl<|.g 1 rfl<|.dn (by kernel_rfl)<|.g 2 rfl<|.fi rfl rfl
instance quo_Sqrt_i (a0:List Int):PC (quo_Sqrt a0) Tryz.prog 194 [(slK (kInt .u32) a0)] (fun r=>(.tup [(slK (kInt .u32) r.1),(slK (kInt .u32) r.2)])):=pc func194 (by kernel_rfl) rfl fun E=>by
 unfold quo_Sqrt
 refine .g 2 rfl<|.st rfl (as0 rfl) rfl<|.st rfl (as0 rfl) rfl<|.g 5 rfl<|.p0 rfl rfl fun x60 _=>.g 7 rfl<|.ln rfl rfl<|.g 3 rfl<|?_
 refine .cd rfl (fun _ _=>?_) fun _ _=>?_
 ·refine .g 2 rfl<|.st rfl (as0 rfl) rfl<|.st rfl (as0 rfl) rfl<|.g 4 rfl<|.fi rfl rfl
 ·refine .g 4 rfl<|.p0 rfl rfl fun x61 _=>.g 1 rfl<|.p0 rfl rfl fun x62 _=>.g 2 rfl<|.p0 rfl rfl fun x63 _=>.g 7 rfl<|?_
  refine .cut (fun x:(List Int)=>(quo_Sqrt_j1 x60 x,[eL 0 x60,eL 2 x],[])) ?_ ?_
  ·rintro y90
   dsimp only [quo_Sqrt_j1]
   refine .g 6 rfl<|.p0 rfl rfl fun x91 _=>.p0 rfl rfl fun x92 _=>.g 15 rfl<|.fi rfl rfl
  ·intro h45
   refine .g 1 rfl<|?_
   refine .lp (fun n (x:(List Int))=>quo_Sqrt_l2 x60 n x) (fun x=>([eL 0 x60,eL 2 x],[])) x63.1 [] rfl ?_
   rintro n2 y110
   try dsimp only
   rw [quo_Sqrt_l2]
   refine .g 5 rfl<|.p0 rfl rfl fun x115 _=>.g 13 rfl<|.p0 rfl rfl fun x116 _=>.p0 rfl rfl fun x117 _=>.g 8 rfl<|.p0 rfl rfl fun x118 _=>.g 3 rfl<|?_
   refine .cd rfl (fun _ _=>?_) fun _ _=>?_
   ·refine .g 5 rfl<|.jw (h45 y110) [] rfl
   ·refine .g 7 rfl<|.ag x117 [] rfl
instance dyad_Sqrt_i (a0:AD) (a1:Int) (a2:Bool):PC (dyad_Sqrt a0 a1 a2) Tryz.prog 127 [(.agg (kD.enc a0)),(.int .i64 a1),(.bool a2)] (fun r=>(.tup [(.agg (kD.enc (⟨((r.1).M),(r.1).E⟩:AD))),(.int .i64 r.2)])):=pc func127 (by kernel_rfl) rfl fun E=>by
 unfold dyad_Sqrt
 refine .g 16 rfl<|?_
 refine .cut (fun x:Bool × Int=>(dyad_Sqrt_j1 a0 a1 a2 x.1 x.2,[eI 1 a1,eB 2 a2,eP 3 0,eP 6 1,eP 8 2,eB 37 x.1],[(0,(.live 26 [(.bool a0.M.Neg),(slK (kInt .u32) a0.M.Mag),(.int .i64 a0.E)])),(1,(.live 26 [(.bool false),(slK (kInt .u32) []),(.int .i64 0)])),(2,(.live 120 [(.int .i64 x.2),(.bool false),(slK (kInt .u32) []),(.int .i64 0)]))])) ?_ ?_
 ·rintro ⟨y27,y28⟩
  dsimp only [dyad_Sqrt_j1]
  refine .g 1 rfl<|?_
  refine .cut (fun x:Bool × (List Int) × Int=>(dyad_Sqrt_j2 y28 x.1 x.2.1 x.2.2,[eP 6 1,eP 8 2],[(1,(.live 26 [(.bool false),(slK (kInt .u32) []),(.int .i64 0)])),(2,(.live 120 [(.int .i64 y28),(.bool x.1),(slK (kInt .u32) x.2.1),(.int .i64 x.2.2)]))])) ?_ ?_
  ·rintro ⟨y33,y34,y35⟩
   dsimp only [dyad_Sqrt_j2]
   refine .g 4 rfl<|.bind fun x36 h14=>.st rfl (cl (CC.h h14) [2] [] [true] rfl (.p rfl<|.nil) (.p rfl (.i<|.b<|.l<|.i<|.nil) .nil) fnil (.cons (.v (.i<|.b<|.l<|.i<|.nil)) .nil) (ren_tupL (.a kD<|.i<|.nil)) (.turned .nil) rfl) rfl<|.g 7 rfl<|.fi rfl rfl
  ·intro h15
   refine .cd rfl (fun _ _=>?_) fun _ _=>?_
   ·refine .g 8 rfl<|.p0 rfl rfl fun x37 _=>.g 23 rfl<|.p0 rfl rfl fun x38 _=>.p0 rfl rfl fun x39 _=>.g 16 rfl<|.ln rfl rfl<|.g 3 rfl<|.bind fun x40 h21=>.st rfl (cl (CC.h h21) [2] [] [true] rfl (.p rfl<|.b<|.l<|.i<|.b<|.i<|.b<|.nil) (.p rfl (.i<|.b<|.l<|.i<|.nil) .nil) fnil (.cons (.v (.i<|.b<|.l<|.i<|.nil)) .nil) (ren_tupL .nil) (.turned .nil) rfl) rfl<|.g 1 rfl<|.jw (h15 (x40.1,x40.2.1,x40.2.2)) [(1,1),(2,2)] rfl
   ·refine .g 1 rfl<|.jw (h15 (false,[],0)) [(1,1),(2,2)] rfl
 ·intro h22
  refine .g 3 rfl<|.st rfl (bs kD [a0] rfl rfl) rfl<|.bind fun x41 h23=>.st rfl (cl (CC.h h23) [2] [] [true] rfl (.p rfl<|.l<|.nil) (.p rfl (.i<|.b<|.l<|.i<|.nil) .nil) fnil (.cons (.v (.i<|.b<|.l<|.i<|.nil)) .nil) (.bool _) (.turned .nil) rfl) rfl<|.g 1 rfl<|?_
  refine .gd 18 rfl (fun _=>?_) fun _=>?_
  ·refine .g 2 rfl<|.bind fun x42 h25=>.st rfl (cl (CC.h h25) [2] [] [true] rfl (.p rfl<|.i<|.nil) (.p rfl (.i<|.b<|.l<|.i<|.nil) .nil) fnil (.cons (.v (.i<|.b<|.l<|.i<|.nil)) .nil) (.bool _) (.turned .nil) rfl) rfl<|.g 2 rfl<|?_
   refine .gd 23 rfl (fun _=>?_) fun _=>?_
   ·refine .g 7 rfl<|.bind fun x43 h27=>.st rfl (cl (CC.h h27) [2] [] [true] rfl (.p rfl<|.b<|.i<|.nil) (.p rfl (.i<|.b<|.l<|.i<|.nil) .nil) fnil (.cons (.v (.i<|.b<|.l<|.i<|.nil)) .nil) (.bool _) (.turned .nil) rfl) rfl<|.g 2 rfl<|?_
    refine .gd 33 rfl (fun _=>?_) fun _=>?_
    ·refine .g 1 rfl<|.p0 rfl rfl fun x44 _=>.g 2 rfl<|.dn (by kernel_rfl)<|.jw (h22 ((!x44),x43.2)) [(0,0),(1,1),(2,2)] rfl
    ·refine .g 4 rfl<|.dn (by kernel_rfl)<|.jw (h22 (false,x43.2)) [(0,0),(1,1),(2,2)] rfl
   ·refine .g 14 rfl<|.dn (by kernel_rfl)<|.jw (h22 (false,x42.2)) [(0,0),(1,1),(2,2)] rfl
  ·refine .g 19 rfl<|.dn (by kernel_rfl)<|.jw (h22 (false,x41.2)) [(0,0),(1,1),(2,2)] rfl
instance cv_Sqrt_i (a0:AI) (a1:Int) (a2:Int):CC (cv_Sqrt a0 a1 a2) Tryz.prog 64 [(.ptr 0 0),(.agg (kI.enc a0))] [(.live 54 [(.int .i64 a1),(.int .i64 a2)])] (fun r=>(.agg (kI.enc (⟨⟨(((r.1).Lo).M),((r.1).Lo).E⟩,⟨(((r.1).Hi).M),((r.1).Hi).E⟩⟩:AI)))) (fun r=>[(.live 54 [(.int .i64 r.2),(.int .i64 a2)])]):=cc func64 (by kernel_rfl) rfl fun E=>by
 unfold cv_Sqrt
 refine .g 11 rfl<|.st rfl (bs kI [a0] rfl rfl) rfl<|.bind fun x7 h1=>.st rfl (cl (CC.h h1) [0] [] [true] rfl (.p rfl<|.l<|.nil) (.p rfl (.i<|.i<|.nil) .nil) fnil (.cons (.v (.i<|.i<|.nil)) .nil) (.bool _) (.turned .nil) rfl) rfl<|.g 3 rfl<|?_
 refine .cd rfl (fun _ _=>?_) fun _ _=>?_
 ·refine .g 8 rfl<|.fi rfl rfl
 ·refine .g 11 rfl<|.p0 rfl rfl fun x8 _=>.g 2 rfl<|.bind fun x9 h5=>.st rfl (cl (CC.h h5) [0] [] [true] rfl (.p rfl<|.a kD<|.i<|.nil) (.p rfl (.i<|.i<|.nil) .nil) fnil (.cons (.v (.i<|.i<|.nil)) .nil) (ren_agg (K:=kD) _) (.turned .nil) rfl) rfl<|.g 2 rfl<|.dn (by kernel_rfl)<|.g 12 rfl<|?_
  refine .cd rfl (fun _ _=>?_) fun _ _=>?_
  ·refine .g 8 rfl<|.fi rfl rfl
  ·refine .g 13 rfl<|.p0 rfl rfl fun x10 _=>.g 2 rfl<|.bind fun x11 h9=>.st rfl (cl (CC.h h9) [0] [] [true] rfl (.p rfl<|.a kD<|.i<|.nil) (.p rfl (.i<|.i<|.nil) .nil) fnil (.cons (.v (.i<|.i<|.nil)) .nil) (ren_agg (K:=kD) _) (.turned .nil) rfl) rfl<|.bind fun x12 h10=>.st rfl (cl (CC.h h10) [0] [] [false] rfl (.p rfl<|.a kD<|.a kD<|.nil) (.p rfl (.i<|.i<|.nil) .nil) fnil (.cons (.v (.i<|.i<|.nil)) .nil) (ren_agg (K:=kI) _) (.kept rfl .nil) rfl) rfl<|.g 1 rfl<|.dn (by kernel_rfl)<|.g 2 rfl<|.fi rfl rfl
instance konst_Root_i (a0:Int) (a1:Int):CC (konst_Root a0 a1) Tryz.prog 151 [(.ptr 0 0)] [(.live 54 [(.int .i64 a0),(.int .i64 a1)])] (fun r=>(.agg (kI.enc (⟨⟨(((r.1).Lo).M),((r.1).Lo).E⟩,⟨(((r.1).Hi).M),((r.1).Hi).E⟩⟩:AI)))) (fun r=>[(.live 54 [(.int .i64 r.2),(.int .i64 a1)])]):=cc func151 (by kernel_rfl) rfl fun E=>by
 unfold konst_Root
 refine .g 9 rfl<|.bind fun x3 h1=>.st rfl (cl (CC.h h1) [0] [] [true] rfl (.p rfl<|.nil) (.p rfl (.i<|.i<|.nil) .nil) fnil (.cons (.v (.i<|.i<|.nil)) .nil) (ren_agg (K:=kI) _) (.turned .nil) rfl) rfl<|.bind fun x4 h2=>.st rfl (cl (CC.h h2) [0] [] [true] rfl (.p rfl<|.a kI<|.nil) (.p rfl (.i<|.i<|.nil) .nil) fnil (.cons (.v (.i<|.i<|.nil)) .nil) (ren_agg (K:=kI) _) (.turned .nil) rfl) rfl<|.g 4 rfl<|.fi rfl rfl
instance erff_done_i (a0:AI) (a1:Int) (a2:Int) (a3:Int):CC (erff_done a0 a1 a2 a3) Tryz.prog 91 [(.ptr 0 0),(.agg (kI.enc a0)),(.int .i64 a1)] [(.live 54 [(.int .i64 a2),(.int .i64 a3)])] (fun r=>(.tup [(.agg (kI.enc (⟨⟨(((r.1).Lo).M),((r.1).Lo).E⟩,⟨(((r.1).Hi).M),((r.1).Hi).E⟩⟩:AI))),(.int .i64 r.2)])) (fun r=>[(.live 54 [(.int .i64 a2),(.int .i64 a3)])]):=cc func91 (by kernel_rfl) rfl fun E=>by
 unfold erff_done
 refine .g 13 rfl<|.bind fun x7 h1=>.st rfl (cl (CC.h h1) [0] [] [false] rfl (.p rfl<|.nil) (.p rfl (.i<|.i<|.nil) .nil) fnil (.cons (.v (.i<|.i<|.nil)) .nil) (.int _ _) (.kept rfl .nil) rfl) rfl<|.g 9 rfl<|?_
 refine .cd rfl (fun _ _=>?_) fun _ _=>?_
 ·refine .g 10 rfl<|.fi rfl rfl
 ·refine .g 5 rfl<|.bind fun x8 h4=>?_
  rcases x8 with x9 | x10
  ·dsimp only
   refine .st rfl (cl (iv_New_k_0 h4) [] [3] [true] rfl (.i<|.nil) .nil (fresh_cons rfl fnil) (.cons .dead .nil) (ren_tupL (.cons .nilptr<|.i<|.nil)) (.turned .nil) rfl) rfl<|.g 11 rfl<|.no
  ·dsimp only
   refine .st rfl (cl (iv_New_k_1 h4) [] [3] [true] rfl (.i<|.nil) .nil (fresh_cons rfl fnil) (.cons (.v (.i<|.i<|.nil)) .nil) (ren_tupL (.p rfl<|.i<|.nil)) (.turned .nil) rfl) rfl<|.g 11 rfl<|.bind fun x11 h5=>.st rfl (cl (CC.h h5) [3] [] [true] rfl (.p rfl<|.a kI<|.nil) (.p rfl (.i<|.i<|.nil) .nil) fnil (.cons (.v (.i<|.i<|.nil)) .nil) (ren_agg (K:=kI) _) (.turned .nil) rfl) rfl<|.g 10 rfl<|.bind fun x12 h6=>.st rfl (cl (CC.h h6) [3] [] [false] rfl (.p rfl<|.nil) (.p rfl (.i<|.i<|.nil) .nil) fnil (.cons (.v (.i<|.i<|.nil)) .nil) (.int _ _) (.kept rfl .nil) rfl) rfl<|.g 2 rfl<|.dn (by kernel_rfl)<|.g 2 rfl<|.fi rfl rfl
theorem erff_erf_k (y:AD) (n e0 p:Int) (s0 last0:AI) (f0:Bool) (r:Int × AI × AI × Bool) (h:erff_erf_s y n e0 p s0 last0 f0=some r) :
  ICal Tryz.prog 213 [.ptr 1 0,.ptr 2 0,.ptr 3 0] [.live 54 [.int .i64 e0,.int .i64 p],.live 29 [.ptr 0 0],.live 26 (kD.enc y),.live 3 [.int .i64 n],.live 29 [.ptr 0 0],.live 37 (kI.enc s0),.live 37 (kI.enc last0),.live 4 [.bool f0]]
   (fun l Ei=>∀ (z:AI × Int × AI × AI × Bool) r,erff_erf_b z.1 z.2.1 p z.2.2.1 z.2.2.2.2=some r→YC Tryz.prog Ei l [0,4,5,6,7] [.agg (kI.enc z.1)] [.live 54 [.int .i64 z.2.1,.int .i64 p],.live 29 [.ptr 0 0],.live 37 (kI.enc z.2.2.1),.live 37 (kI.enc z.2.2.2.1),.live 4 [.bool z.2.2.2.2]] (.bool true)
    [.live 54 [.int .i64 r.1,.int .i64 p],.live 29 [.ptr 0 0],.live 37 (kI.enc r.2.1),.live 37 (kI.enc r.2.2.1),.live 4 [.bool r.2.2.2]])
   [.live 54 [.int .i64 r.1,.int .i64 p],.live 29 [.ptr 0 0],.live 26 (kD.enc y),.live 3 [.int .i64 n],.live 29 [.ptr 0 0],.live 37 (kI.enc r.2.1),.live 37 (kI.enc r.2.2.1),.live 4 [.bool r.2.2.2]]:=by
 refine icc h (Lf:=fun l=>[(0,some (.yl l)),(1,some (.ptr 1 0)),(2,some (.ptr 2 0)),(3,some (.ptr 3 0))]) (V1:=fun r=>[.live 54 [.int .i64 r.1,.int .i64 p],.live 29 [.ptr 0 0],.live 26 (kD.enc y),.live 3 [.int .i64 n],.live 29 [.ptr 0 0],.live 37 (kI.enc r.2.1),.live 37 (kI.enc r.2.2.1),.live 4 [.bool r.2.2.2]]) func213 (by kernel_rfl) (by exact fun _=>rfl) (fun l E hY=>?_)
 unfold erff_erf_s
 refine .g 4 rfl<|.bind fun x1 h1=>.st rfl (cl (CC.h h1) [0] [] [true] rfl (.p rfl<|.a kD<|.nil) (.p rfl (.i<|.i<|.nil) .nil) fnil (.cons (.v (.i<|.i<|.nil)) .nil) (ren_agg (K:=kI) _) (.turned .nil) rfl) rfl<|?_
 refine .g 10 rfl<|.bind fun x2 h2=>.st rfl (cl (CC.h h2) [0] [] [true] rfl (.p rfl<|.a kI<|.a kI<|.nil) (.p rfl (.i<|.i<|.nil) .nil) fnil (.cons (.v (.i<|.i<|.nil)) .nil) (ren_agg (K:=kI) _) (.turned .nil) rfl) rfl<|?_
 refine .bind fun x3 h3=>.st rfl (cl (CC.h h3) [0] [] [true] rfl (.p rfl<|.a kI<|.i<|.nil) (.p rfl (.i<|.i<|.nil) .nil) fnil (.cons (.v (.i<|.i<|.nil)) .nil) (ren_agg (K:=kI) _) (.turned .nil) rfl) rfl<|.g 2 rfl<|.dn (by kernel_rfl)<|.g 7 rfl<|?_
 refine .lp (fun k (x:Int × AI × Int × AI × AI × Bool)=>erff_erf_l p n x3.1 k x.1 x.2.1 x.2.2.1 x.2.2.2.1 x.2.2.2.2.1 x.2.2.2.2.2) (fun x=>([(0,some (.yl l)),eP 1 1,eP 2 2,eP 3 3,eP 5 8,eP 6 9,eI 7 x.1],[(0,(.live 54 [.int .i64 x.2.2.1,.int .i64 p])),(1,(.live 29 [.ptr 0 0])),(2,(.live 26 [.bool y.M.Neg,slK (kInt .u32) y.M.Mag,.int .i64 y.E])),(3,(.live 3 [.int .i64 n])),(4,(.live 29 [.ptr 0 0])),(5,(.live 37 [.bool x.2.2.2.1.Lo.M.Neg,slK (kInt .u32) x.2.2.2.1.Lo.M.Mag,.int .i64 x.2.2.2.1.Lo.E,.bool x.2.2.2.1.Hi.M.Neg,slK (kInt .u32) x.2.2.2.1.Hi.M.Mag,.int .i64 x.2.2.2.1.Hi.E])),(6,(.live 37 [.bool x.2.2.2.2.1.Lo.M.Neg,slK (kInt .u32) x.2.2.2.2.1.Lo.M.Mag,.int .i64 x.2.2.2.2.1.Lo.E,.bool x.2.2.2.2.1.Hi.M.Neg,slK (kInt .u32) x.2.2.2.2.1.Hi.M.Mag,.int .i64 x.2.2.2.2.1.Hi.E])),(7,(.live 4 [.bool x.2.2.2.2.2])),(8,(.live 37 [.bool x.2.1.Lo.M.Neg,slK (kInt .u32) x.2.1.Lo.M.Mag,.int .i64 x.2.1.Lo.E,.bool x.2.1.Hi.M.Neg,slK (kInt .u32) x.2.1.Hi.M.Mag,.int .i64 x.2.1.Hi.E])),(9,(.live 37 [.bool x3.1.Lo.M.Neg,slK (kInt .u32) x3.1.Lo.M.Mag,.int .i64 x3.1.Lo.E,.bool x3.1.Hi.M.Neg,slK (kInt .u32) x3.1.Hi.M.Mag,.int .i64 x3.1.Hi.E]))])) (1,x1.1,x3.2,s0,last0,f0) [(0,0),(1,1),(2,2),(3,3),(4,4),(5,5),(6,6),(7,7),(8,8),(9,9)] rfl ?_
 rintro k ⟨i,t,e,s,last,first⟩
 try dsimp only
 rw [erff_erf_l]
 refine .g 5 rfl<|.bind fun b hb=>.y (hY (t,e,s,last,first) b hb) [.live 54 [.int .i64 b.1,.int .i64 p],.live 29 [.ptr 0 0],.live 37 (kI.enc b.2.1),.live 37 (kI.enc b.2.2.1),.live 4 [.bool b.2.2.2]] rfl (.a kI<|.nil) (.p rfl (.i<|.i<|.nil) (.p rfl (.p rfl<|.nil) (.p rfl (.b<|.l<|.i<|.b<|.l<|.i<|.nil) (.p rfl (.b<|.l<|.i<|.b<|.l<|.i<|.nil) (.p rfl (.b<|.nil) .nil))))) (.cons (.v (.i<|.i<|.nil)) (.cons (.v (.p rfl<|.nil)) (.cons (.v (.b<|.l<|.i<|.b<|.l<|.i<|.nil)) (.cons (.v (.b<|.l<|.i<|.b<|.l<|.i<|.nil)) (.cons (.v (.b<|.nil)) .nil))))) rfl<|.g 7 rfl<|?_
 refine .cd rfl (fun _ _=>?_) fun _ _=>?_
 ·refine .g 9 rfl<|.bind fun x4 h4=>.st rfl (cl (CC.h h4) [0] [] [true] rfl (.p rfl<|.a kI<|.a kI<|.nil) (.p rfl (.i<|.i<|.nil) .nil) fnil (.cons (.v (.i<|.i<|.nil)) .nil) (ren_agg (K:=kI) _) (.turned .nil) rfl) rfl<|?_
  refine .g 4 rfl<|.bind fun x5 h5=>.st rfl (cl (CC.h h5) [0] [] [true] rfl (.p rfl<|.i<|.nil) (.p rfl (.i<|.i<|.nil) .nil) fnil (.cons (.v (.i<|.i<|.nil)) .nil) (ren_agg (K:=kI) _) (.turned .nil) rfl) rfl<|?_
  refine .bind fun x6 h6=>.st rfl (cl (CC.h h6) [0] [] [true] rfl (.p rfl<|.a kI<|.a kI<|.nil) (.p rfl (.i<|.i<|.nil) .nil) fnil (.cons (.v (.i<|.i<|.nil)) .nil) (ren_agg (K:=kI) _) (.turned .nil) rfl) rfl<|.g 1 rfl<|.dn (by kernel_rfl)<|.g 7 rfl<|?_
  exact .ag (IntKind.i64.wrap (i+1),x6.1,x6.2,b.2.1,b.2.2.1,b.2.2.2) [(0,0),(1,1),(2,2),(3,3),(4,4),(5,5),(6,6),(7,7),(8,8),(9,9)] rfl
 ·exact .g 4 rfl<|.fi rfl rfl
instance erff_erf_i (a0:AD) (a1:Int):PC (erff_erf a0 a1) Tryz.prog 90 [(.agg (kD.enc a0)),(.int .i64 a1)] (fun r=>(.tup [(.agg (kI.enc (⟨⟨(((r.1).Lo).M),((r.1).Lo).E⟩,⟨(((r.1).Hi).M),((r.1).Hi).E⟩⟩:AI))),(.int .i64 r.2)])):=pcR func90 (by kernel_rfl) rfl fun E hro hds=>by
 unfold erff_erf
 refine .g 11 rfl<|.p0 rfl rfl fun x27 _=>.g 9 rfl<|?_
 refine .cut (fun x:Bool=>(erff_erf_j1 x27 a0 a1 x,[eI 1 a1,eP 2 0,eP 4 1,eI 6 x27.1,eI 7 x27.2,eB 32 x],[(0,(.live 26 [(.bool a0.M.Neg),(slK (kInt .u32) a0.M.Mag),(.int .i64 a0.E)])),(1,(.live 37 [(.bool false),(slK (kInt .u32) []),(.int .i64 0),(.bool false),(slK (kInt .u32) []),(.int .i64 0)]))])) ?_ ?_
 ·rintro y28
  dsimp only [erff_erf_j1]
  refine .g 1 rfl<|?_
  refine .cd rfl (fun _ _=>?_) fun _ _=>?_
  ·refine .g 10 rfl<|.fi rfl rfl
  ·refine .g 20 rfl<|.p0 rfl rfl fun x29 _=>.g 15 rfl<|?_
   refine .cd rfl (fun _ _=>?_) fun _ _=>?_
   ·refine .g 10 rfl<|.fi rfl rfl
   ·refine .g 5 rfl<|.p0 rfl rfl fun x30 _=>.g 2 rfl<|.p0 rfl rfl fun x31 _=>.g 15 rfl<|?_
    refine .cd rfl (fun _ _=>?_) fun _ _=>?_
    ·refine .g 10 rfl<|.fi rfl rfl
    ·refine .g 6 rfl<|.bind fun x32 h12=>?_
     rcases x32 with x33 | x34
     ·dsimp only
      refine .st rfl (cl (iv_New_k_0 h12) [] [5] [true] rfl (.i<|.nil) .nil (fresh_cons rfl fnil) (.cons .dead .nil) (ren_tupL (.cons .nilptr<|.i<|.nil)) (.turned .nil) rfl) rfl<|.g 26 rfl<|.bind fun x35 h13=>.st rfl (cl (CC.h h13) [] [10,11,12] [true,true,true] rfl (.cons .nilptr<|.a kD<|.i<|.nil) .nil (fresh_cons rfl (fresh_cons rfl (fresh_cons rfl fnil))) (.cons (.v (.cons .nilptr<|.nil)) (.cons (.v (.b<|.l<|.i<|.nil)) (.cons (.v (.i<|.nil)) .nil))) (ren_fnL _ .nil (.p rfl<|.p rfl<|.p rfl<|.nil)) (.turned (.turned (.turned .nil))) rfl) rfl<|.g 3 rfl<|.no
     ·dsimp only
      refine .st rfl (cl (iv_New_k_1 h12) [] [5] [true] rfl (.i<|.nil) .nil (fresh_cons rfl fnil) (.cons (.v (.i<|.i<|.nil)) .nil) (ren_tupL (.p rfl<|.i<|.nil)) (.turned .nil) rfl) rfl<|.g 26 rfl<|.bind fun x36 h14=>.st rfl (cl (CC.h h14) [5] [10,11,12] [false,true,true,true] rfl (.p rfl<|.a kD<|.i<|.nil) (.p rfl (.i<|.i<|.nil) .nil) (fresh_cons rfl (fresh_cons rfl (fresh_cons rfl fnil))) (.cons (.v (.i<|.i<|.nil)) (.cons (.v (.p rfl<|.nil)) (.cons (.v (.b<|.l<|.i<|.nil)) (.cons (.v (.i<|.nil)) .nil)))) (ren_fnL _ .nil (.p rfl<|.p rfl<|.p rfl<|.nil)) (.kept rfl (.turned (.turned (.turned .nil)))) rfl) rfl<|.g 3 rfl<|?_
      refine .rf (mr:=5) (bF:=fun z:AI × Int × AI × AI × Bool=>erff_erf_b z.1 z.2.1 x34.2.2 z.2.2.1 z.2.2.2.2) (arg:=fun z=>.agg (kI.enc z.1)) (Mr:=fun z=>[.live 54 [.int .i64 z.2.1,.int .i64 x34.2.2],.live 29 [.ptr 0 0],.live 37 [.bool z.2.2.1.Lo.M.Neg,slK (kInt .u32) z.2.2.1.Lo.M.Mag,.int .i64 z.2.2.1.Lo.E,.bool z.2.2.1.Hi.M.Neg,slK (kInt .u32) z.2.2.1.Hi.M.Mag,.int .i64 z.2.2.1.Hi.E],.live 37 [.bool z.2.2.2.1.Lo.M.Neg,slK (kInt .u32) z.2.2.2.1.Lo.M.Mag,.int .i64 z.2.2.2.1.Lo.E,.bool z.2.2.2.1.Hi.M.Neg,slK (kInt .u32) z.2.2.2.1.Hi.M.Mag,.int .i64 z.2.2.2.1.Hi.E],.live 4 [.bool z.2.2.2.2]]) (Mi:=fun z=>[(0,.live 54 [.int .i64 z.2.1,.int .i64 x34.2.2]),(1,.live 29 [.ptr 0 0]),(2,.live 37 [.bool z.2.2.1.Lo.M.Neg,slK (kInt .u32) z.2.2.1.Lo.M.Mag,.int .i64 z.2.2.1.Lo.E,.bool z.2.2.1.Hi.M.Neg,slK (kInt .u32) z.2.2.1.Hi.M.Mag,.int .i64 z.2.2.1.Hi.E]),(3,.live 37 [.bool z.2.2.2.1.Lo.M.Neg,slK (kInt .u32) z.2.2.2.1.Lo.M.Mag,.int .i64 z.2.2.2.1.Lo.E,.bool z.2.2.2.1.Hi.M.Neg,slK (kInt .u32) z.2.2.2.1.Hi.M.Mag,.int .i64 z.2.2.2.1.Hi.E]),(4,.live 4 [.bool z.2.2.2.2])]) (M2:=fun r=>[.live 54 [.int .i64 r.1,.int .i64 x34.2.2],.live 29 [.ptr 0 0],.live 37 [.bool r.2.1.Lo.M.Neg,slK (kInt .u32) r.2.1.Lo.M.Mag,.int .i64 r.2.1.Lo.E,.bool r.2.1.Hi.M.Neg,slK (kInt .u32) r.2.1.Hi.M.Mag,.int .i64 r.2.1.Hi.E],.live 37 [.bool r.2.2.1.Lo.M.Neg,slK (kInt .u32) r.2.2.1.Lo.M.Mag,.int .i64 r.2.2.1.Lo.E,.bool r.2.2.1.Hi.M.Neg,slK (kInt .u32) r.2.2.1.Hi.M.Mag,.int .i64 r.2.2.1.Hi.E],.live 4 [.bool r.2.2.2]]) (W:=fun r=>[(.live 54 [(.int .i64 r.1),(.int .i64 x34.2.2)]),(.live 29 [(.ptr 5 0)]),(.live 26 [(.bool x36.1),(slK (kInt .u32) x36.2.1),(.int .i64 x36.2.2.1)]),(.live 3 [(.int .i64 x36.2.2.2)]),(.live 29 [(.ptr 5 0)]),(.live 37 [(.bool ((((r.2.1).Lo).M).Neg)),(slK (kInt .u32) ((((r.2.1).Lo).M).Mag)),(.int .i64 (((r.2.1).Lo).E)),(.bool ((((r.2.1).Hi).M).Neg)),(slK (kInt .u32) ((((r.2.1).Hi).M).Mag)),(.int .i64 (((r.2.1).Hi).E))]),(.live 37 [(.bool ((((r.2.2.1).Lo).M).Neg)),(slK (kInt .u32) ((((r.2.2.1).Lo).M).Mag)),(.int .i64 (((r.2.2.1).Lo).E)),(.bool ((((r.2.2.1).Hi).M).Neg)),(slK (kInt .u32) ((((r.2.2.1).Hi).M).Mag)),(.int .i64 (((r.2.2.1).Hi).E))]),(.live 4 [(.bool r.2.2.2)])]) hro hds [5,10,11,12,6,7,8,9] [0,4,5,6,7] [(11,1),(13,2),(14,3),(15,4)] rfl (fun r h=>erff_erf_k _ _ _ _ _ _ _ r h) (.p rfl<|.p rfl<|.p rfl<|.nil) (.p rfl (.i<|.i<|.nil) (.p rfl (.p rfl<|.nil) (.p rfl (.b<|.l<|.i<|.nil) (.p rfl (.i<|.nil) (.p rfl (.p rfl<|.nil) (.p rfl (.b<|.l<|.i<|.b<|.l<|.i<|.nil) (.p rfl (.b<|.l<|.i<|.b<|.l<|.i<|.nil) (.p rfl (.b<|.nil) .nil)))))))) (fun _=>(.cons (.v (.i<|.i<|.nil)) (.cons (.v (.p rfl<|.nil)) (.cons (.v (.b<|.l<|.i<|.nil)) (.cons (.v (.i<|.nil)) (.cons (.v (.p rfl<|.nil)) (.cons (.v (.b<|.l<|.i<|.b<|.l<|.i<|.nil)) (.cons (.v (.b<|.l<|.i<|.b<|.l<|.i<|.nil)) (.cons (.v (.b<|.nil)) .nil))))))))) (by exact fun _=>rfl) (by exact fun _=>rfl) (fun z E=>.g 4 rfl .as0) (fun z r hz E=>?_) fun x37 h15 E2=>?_
      ·obtain ⟨t,e,s,last,first⟩:=z
       cases first
       ·rw [erff_erf_b,if_neg (fun h=>Bool.noConfusion h)] at hz
        obtain ⟨x,hx,hr⟩:=Option.bind_eq_some_iff.1 hz
        cases hr
        exact .g 20 rfl<|.st rfl (cl (CC.h hx) [0] [] [true] rfl (.p rfl<|.a kI<|.a kI<|.nil) (.p rfl (.i<|.i<|.nil) .nil) fnil (.cons (.v (.i<|.i<|.nil)) .nil) (ren_agg (K:=kI) _) (.turned .nil) rfl) rfl<|.g 3 rfl<|.rd0 rfl
       ·rw [erff_erf_b,if_pos rfl] at hz
        cases hz
        exact .g 24 rfl<|.rd0 rfl
      skip
      refine .g 8 rfl<|.bind fun x38 h16=>.st rfl (cl (CC.h h16) [5] [] [true] rfl (.p rfl<|.a kI<|.a kD<|.nil) (.p rfl (.i<|.i<|.nil) .nil) fnil (.cons (.v (.i<|.i<|.nil)) .nil) (ren_agg (K:=kI) _) (.turned .nil) rfl) rfl<|.g 9 rfl<|.bind fun x39 h17=>.st rfl (cl (CC.h h17) [5] [] [true] rfl (.p rfl<|.a kI<|.i<|.nil) (.p rfl (.i<|.i<|.nil) .nil) fnil (.cons (.v (.i<|.i<|.nil)) .nil) (ren_agg (K:=kI) _) (.turned .nil) rfl) rfl<|.g 1 rfl<|.bind fun x40 h18=>.st rfl (cl (CC.h h18) [5] [] [true] rfl (.p rfl<|.a kI<|.a kI<|.nil) (.p rfl (.i<|.i<|.nil) .nil) fnil (.cons (.v (.i<|.i<|.nil)) .nil) (ren_agg (K:=kI) _) (.turned .nil) rfl) rfl<|.g 1 rfl<|.bind fun x41 h19=>.st rfl (cl (CC.h h19) [5] [] [true] rfl (.p rfl<|.nil) (.p rfl (.i<|.i<|.nil) .nil) fnil (.cons (.v (.i<|.i<|.nil)) .nil) (ren_agg (K:=kI) _) (.turned .nil) rfl) rfl<|.bind fun x42 h20=>.st rfl (cl (CC.h h20) [5] [] [true] rfl (.p rfl<|.a kI<|.a kI<|.nil) (.p rfl (.i<|.i<|.nil) .nil) fnil (.cons (.v (.i<|.i<|.nil)) .nil) (ren_agg (K:=kI) _) (.turned .nil) rfl) rfl<|?_
      refine .g 2 rfl<|.dn (by kernel_rfl)<|.g 9 rfl<|?_
      refine .cut (fun x:Int × Bool × (List Int) × Int × Bool × (List Int) × Int=>(erff_erf_j2 a1 x34 x.1 x.2.1 x.2.2.1 x.2.2.2.1 x.2.2.2.2.1 x.2.2.2.2.2.1 x.2.2.2.2.2.2,[eI 1 a1,eP 4 1,eP 11 6,eP 17 13],[(1,(.live 37 [(.bool false),(slK (kInt .u32) []),(.int .i64 0),(.bool false),(slK (kInt .u32) []),(.int .i64 0)])),(6,(.live 29 [(.ptr 5 0)])),(5,(.live 54 [(.int .i64 x.1),(.int .i64 x34.2.2)])),(13,(.live 37 [(.bool x.2.1),(slK (kInt .u32) x.2.2.1),(.int .i64 x.2.2.2.1),(.bool x.2.2.2.2.1),(slK (kInt .u32) x.2.2.2.2.2.1),(.int .i64 x.2.2.2.2.2.2)]))])) ?_ ?_
      ·rintro ⟨y44,y45,y46,y47,y48,y49,y50⟩
       dsimp only [erff_erf_j2]
       refine .g 6 rfl<|.bind fun x51 h24=>.st rfl (cl (CC.h h24) [5] [] [false] rfl (.p rfl<|.a kI<|.i<|.nil) (.p rfl (.i<|.i<|.nil) .nil) fnil (.cons (.v (.i<|.i<|.nil)) .nil) (ren_tupL (.a kI<|.i<|.nil)) (.kept rfl .nil) rfl) rfl<|.g 7 rfl<|.fi rfl rfl
      ·intro h25
       refine .cd rfl (fun _ _=>?_) fun _ _=>?_
       ·refine .g 3 rfl<|.bind fun x52 h28=>.st rfl (cl (CC.h h28) [5] [] [true] rfl (.p rfl<|.a kI<|.nil) (.p rfl (.i<|.i<|.nil) .nil) fnil (.cons (.v (.i<|.i<|.nil)) .nil) (ren_agg (K:=kI) _) (.turned .nil) rfl) rfl<|.g 2 rfl<|.jw (h25 (x52.2,(((x52.1).Lo).M).Neg,(((x52.1).Lo).M).Mag,((x52.1).Lo).E,(((x52.1).Hi).M).Neg,(((x52.1).Hi).M).Mag,((x52.1).Hi).E)) [(1,1),(6,6),(5,5),(13,13)] rfl
       ·refine .g 1 rfl<|.jw (h25 (x42.2,(((x42.1).Lo).M).Neg,(((x42.1).Lo).M).Mag,((x42.1).Lo).E,(((x42.1).Hi).M).Neg,(((x42.1).Hi).M).Mag,((x42.1).Hi).E)) [(1,1),(6,6),(5,5),(13,13)] rfl
 ·intro h29
  refine .g 4 rfl<|?_
  refine .gd 26 rfl (fun _=>?_) fun _=>?_
  ·refine .g 7 rfl<|.jw (h29 true) [(0,0),(1,1)] rfl
  ·refine .g 3 rfl<|.ln rfl rfl<|.g 3 rfl<|.jw (h29 ((a0.M.Mag.length:Int) == 0)) [(0,0),(1,1)] rfl
instance erff_Erf_i (a0:AD) (a1:Int):PC (erff_Erf a0 a1) Tryz.prog 33 [(.agg (kD.enc a0)),(.int .i64 a1)] (fun r=>(.tup [(.agg (kI.enc (⟨⟨(((r.1).Lo).M),((r.1).Lo).E⟩,⟨(((r.1).Hi).M),((r.1).Hi).E⟩⟩:AI))),(.int .i64 r.2)])):=pc func33 (by kernel_rfl) rfl fun E=>by
 unfold erff_Erf
 refine .g 12 rfl<|.p0 rfl rfl fun x3 _=>.g 9 rfl<|?_
 refine .cd rfl (fun _ _=>?_) fun _ _=>?_
 ·refine .g 10 rfl<|.fi rfl rfl
 ·refine .g 6 rfl<|.p0 rfl rfl fun x4 _=>.g 7 rfl<|.fi rfl rfl
instance r01_Trim_i (a0:List Int):PC (r01_Trim a0) Tryz.prog 123 [(slK (kInt .u32) a0)] (fun r=>(slK (kInt .u32) r)):=pc func123 (by kernel_rfl) rfl fun E=>by
 unfold r01_Trim
 refine .g 8 rfl<|.ln rfl rfl<|.g 4 rfl<|?_
 refine .cut (fun x:Int=>(r01_Trim_j1 a0 x,[eL 0 a0,eI 3 x],[])) ?_ ?_
 ·rintro y17
  dsimp only [r01_Trim_j1]
  refine .g 11 rfl<|.guard fun h19=>.sv (slK (kInt .u32) (a0.take y17.toNat)) [] rfl (snd_sliceK (kInt .u32) _ _ _ _ _ _ 0 y17 rfl underlying22 si134 rfl rfl rfl rfl rfl h19) rfl<|.guard fun h20=>.sv (grA (kInt .u32) 0 (a0.take y17.toNat)) [(0,(grV (kInt .u32) 134 (a0.take y17.toNat)))] rfl (snd_appendK_nil0 (kInt .u32) _ _ _ _ _ 0 (a0.take y17.toNat) rfl underlying22 ze134 sb134 rfl rfl rfl rfl rfl h20) rfl<|.g 4 rfl<|?_
  refine .weak ?_ (fun a w h=>Conc.gr_still (kInt .u32) h 2 0 134 (a0.take y17.toNat) rfl rfl)
  exact .fi rfl rfl
 ·intro h21
  refine .g 1 rfl<|?_
  refine .lp (fun n (x:Int)=>r01_Trim_l2 a0 n x) (fun x=>([eL 0 a0,eI 3 x],[])) (a0.length:Int) [] rfl ?_
  rintro n2 y21
  try dsimp only
  rw [r01_Trim_l2]
  refine .g 2 rfl<|?_
  refine .cut (fun x:Bool=>(r01_Trim_j3 (fun z0=>r01_Trim_l2 a0 n2 z0) y21 a0 x,[eL 0 a0,eI 3 y21,eB 16 x],[])) ?_ ?_
  ·rintro y22
   dsimp only [r01_Trim_j3]
   refine .g 1 rfl<|?_
   refine .cd rfl (fun _ _=>?_) fun _ _=>?_
   ·refine .g 9 rfl<|.ag (IntKind.i64.wrap (y21-1)) [] rfl
   ·refine .g 4 rfl<|.jw (h21 y21) [] rfl
  ·intro h38
   refine .g 4 rfl<|?_
   refine .gd 9 rfl (fun _=>?_) fun _=>?_
   ·refine .g 3 rfl<|.ix rfl rfl<|.g 4 rfl<|.jw (h38 ((a0.getD ((IntKind.i64.wrap (y21-1)).toNat) (kInt .u32).z) == 0)) [] rfl
   ·refine .g 8 rfl<|.jw (h38 false) [] rfl
instance r01_From_i (a0:Int):PC (r01_From a0) Tryz.prog 187 [(.int .u64 a0)] (fun r=>(slK (kInt .u32) r)):=pc func187 (by kernel_rfl) rfl fun E=>by
 unfold r01_From
 refine .g 2 rfl<|.st rfl (as0 rfl) rfl<|.g 9 rfl<|.st rfl (bs (kInt .u32) [(IntKind.u32.wrap a0),(IntKind.u32.wrap (shrI .u64 a0 32))] rfl rfl) rfl<|.p0 rfl rfl fun x2 _=>.g 4 rfl<|.fi rfl rfl
instance r04_Make_i (a0:Bool) (a1:List Int):PC (r04_Make a0 a1) Tryz.prog 59 [(.bool a0),(slK (kInt .u32) a1)] (fun r=>(.agg (kN.enc (r)))):=pc func59 (by kernel_rfl) rfl fun E=>by
 unfold r04_Make
 refine .g 8 rfl<|.p0 rfl rfl fun x3 _=>.g 4 rfl<|?_
 refine .cut (fun x:Bool=>(r04_Make_j1 x3 x,[eP 4 0],[(0,(.live 24 [(.bool x),(slK (kInt .u32) x3)]))])) ?_ ?_
 ·rintro y4
  dsimp only [r04_Make_j1]
  refine .g 2 rfl<|.fi rfl rfl
 ·intro h3
  refine .g 3 rfl<|?_
  refine .gd 9 rfl (fun _=>?_) fun _=>?_
  ·refine .g 1 rfl<|.ln rfl rfl<|.g 6 rfl<|.jw (h3 (decide ((x3.length:Int)>0))) [(0,0)] rfl
  ·refine .g 8 rfl<|.jw (h3 false) [(0,0)] rfl
instance r04_From_i (a0:Int):PC (r04_From a0) Tryz.prog 118 [(.int .i64 a0)] (fun r=>(.agg (kN.enc (r)))):=pc func118 (by kernel_rfl) rfl fun E=>by
 unfold r04_From
 refine .g 12 rfl<|?_
 refine .cd rfl (fun _ _=>?_) fun _ _=>?_
 ·refine .g 7 rfl<|.p0 rfl rfl fun x5 _=>.p0 rfl rfl fun x6 _=>.g 5 rfl<|.fi rfl rfl
 ·refine .g 6 rfl<|.p0 rfl rfl fun x7 _=>.p0 rfl rfl fun x8 _=>.g 4 rfl<|.fi rfl rfl
instance r01_Bit_i (a0:List Int) (a1:Int):PC (r01_Bit a0 a1) Tryz.prog 185 [(slK (kInt .u32) a0),(.int .i64 a1)] (fun r=>(.bool r)):=pc func185 (by kernel_rfl) rfl fun E=>by
 unfold r01_Bit
 refine .g 7 rfl<|?_
 refine .cut (fun x:Bool=>(r01_Bit_j1 a1 a0 x,[eL 0 a0,eI 1 a1,eB 13 x],[])) ?_ ?_
 ·rintro y2
  dsimp only [r01_Bit_j1]
  refine .g 1 rfl<|?_
  refine .cd rfl (fun _ _=>?_) fun _ _=>?_
  ·refine .g 7 rfl<|.fi rfl rfl
  ·refine .g 7 rfl<|.ix rfl rfl<|.g 3 rfl<|.guard fun h5=>.st rfl (snd_shr _ _ _ _ _ _ _ _ rfl rfl rfl rfl rfl h5) rfl<|.g 6 rfl<|.fi rfl rfl
 ·intro h6
  refine .g 4 rfl<|?_
  refine .gd 7 rfl (fun _=>?_) fun _=>?_
  ·refine .g 7 rfl<|.jw (h6 true) [] rfl
  ·refine .g 3 rfl<|.ln rfl rfl<|.g 3 rfl<|.jw (h6 (decide ((IntKind.i64.wrap (a1.tdiv 32))≥(a0.length:Int)))) [] rfl
instance r01_at_i (a0:List Int) (a1:Int):PC (r01_at a0 a1) Tryz.prog 219 [(slK (kInt .u32) a0),(.int .i64 a1)] (fun r=>(.int .u64 r)):=pc func219 (by kernel_rfl) rfl fun E=>by
 unfold r01_at
 refine .g 10 rfl<|.ln rfl rfl<|.g 3 rfl<|?_
 refine .cd rfl (fun _ _=>?_) fun _ _=>?_
 ·refine .g 7 rfl<|.fi rfl rfl
 ·refine .g 6 rfl<|.ix rfl rfl<|.g 6 rfl<|.fi rfl rfl
instance r01_Shr_i (a0:List Int) (a1:Int):PC (r01_Shr a0 a1) Tryz.prog 186 [(slK (kInt .u32) a0),(.int .i64 a1)] (fun r=>(slK (kInt .u32) r)):=pc func186 (by kernel_rfl) rfl fun E=>by
 unfold r01_Shr
 refine .g 12 rfl<|?_
 refine .cd rfl (fun _ _=>?_) fun _ _=>?_
 ·refine .g 3 rfl<|.p0 rfl rfl fun x36 _=>.g 5 rfl<|.fi rfl rfl
 ·refine .g 8 rfl<|.ln rfl rfl<|.g 3 rfl<|?_
  refine .cd rfl (fun _ _=>?_) fun _ _=>?_
  ·refine .g 7 rfl<|.fj rfl rfl AVle.nil
  ·refine .g 15 rfl<|?_
   refine .cut (fun x:(List Int)=>(r01_Shr_j1 x,[(5,some (grA (kInt .u32) 0 x))],[(0,(grV (kInt .u32) 134 x))])) ?_ ?_
   ·rintro y53
    dsimp only [r01_Shr_j1]
    refine .g 2 rfl<|?_
    refine .weak ?_ (fun a w h=>Conc.gr_still (kInt .u32) h 5 0 134 y53 rfl rfl)
    refine .g 2 rfl<|.p0 rfl rfl fun x54 _=>.g 4 rfl<|.fi rfl rfl
   ·intro h37
    refine .g 1 rfl<|?_
    refine .weak ?_ (fun a w h=>Conc.gr_nil (kInt .u32) h 5 0 134 rfl)
    refine .lo (fun n (x:Int × (List Int))=>r01_Shr_l2 a0 a1 n x.1 x.2) (fun x=>([eL 0 a0,eI 1 a1,(5,some (grA (kInt .u32) 0 x.2)),eI 6 x.1],[(0,(grV (kInt .u32) 134 x.2))])) ((IntKind.i64.wrap (a1.tdiv 32)),[]) rfl (fun hE=>jn (m:=0) [(0,0)] hE (.l rfl<|.i rfl<|.g rfl (ren_gr (K:=(kInt .u32)) (by rfl) [])<|.i rfl<|.nil) (.cons (.refl _) (renV_gr (K:=(kInt .u32)) 134 [])<|.nil) rfl) ?_
    rintro n2 ⟨y65,y66⟩
    try dsimp only
    rw [r01_Shr_l2]
    refine .g 5 rfl<|.ln rfl rfl<|.g 3 rfl<|?_
    refine .cd rfl (fun _ _=>?_) fun _ _=>?_
    ·refine .g 8 rfl<|.p0 rfl rfl fun x69 _=>.g 3 rfl<|.p0 rfl rfl fun x70 _=>.g 10 rfl<|.guard fun h66=>.st rfl (snd_shr _ _ _ _ _ _ _ _ rfl rfl rfl rfl rfl h66) rfl<|.g 1 rfl<|.st rfl (bs (kInt .u32) [(IntKind.u32.wrap (shrI .u64 (orI .u64 x69 (shlI .u64 x70 32)) (a1.tmod 32)))] rfl rfl) rfl<|.guard fun h67=>.sv (.row 1 (kInt .u32).sz 0 (((y66++[(IntKind.u32.wrap (shrI .u64 (orI .u64 x69 (shlI .u64 x70 32)) (a1.tmod 32)))])).length)) [(1,(rwK (kInt .u32) 134 (y66++[(IntKind.u32.wrap (shrI .u64 (orI .u64 x69 (shlI .u64 x70 32)) (a1.tmod 32)))]))),(0,.dead)] rfl (snd_appendK_gr (kInt .u32) _ _ _ _ _ 0 1 y66 [(IntKind.u32.wrap (shrI .u64 (orI .u64 x69 (shlI .u64 x70 32)) (a1.tmod 32)))] rfl underlying22 ze134 sb134 rfl rfl rfl rfl rfl rfl rfl h67) rfl<|.g 9 rfl<|?_
     refine .weak ?_ (fun a w h=>Conc.gr_row (kInt .u32) h 5 1 134 (y66++[(IntKind.u32.wrap (shrI .u64 (orI .u64 x69 (shlI .u64 x70 32)) (a1.tmod 32)))]) rfl rfl (by first | omega | (simp only [List.length_append,List.length_cons,List.length_set]; omega) | simp))
     exact .ao ((IntKind.i64.wrap (y65+1)),(y66++[(IntKind.u32.wrap (shrI .u64 (orI .u64 x69 (shlI .u64 x70 32)) (a1.tmod 32)))])) rfl fun hE=>jn (m:=0) [(1,0)] hE (.l rfl<|.i rfl<|.g rfl (ren_gr (K:=(kInt .u32)) (by rfl) (y66++[(IntKind.u32.wrap (shrI .u64 (orI .u64 x69 (shlI .u64 x70 32)) (a1.tmod 32)))]))<|.i rfl<|.nil) (.cons (.refl _) (renV_gr (K:=(kInt .u32)) 134 (y66++[(IntKind.u32.wrap (shrI .u64 (orI .u64 x69 (shlI .u64 x70 32)) (a1.tmod 32)))]))<|.nil) rfl
    ·refine .g 4 rfl<|.jo (h37 y66) rfl fun hE=>jn (m:=0) [(0,0)] hE (.g rfl (ren_gr (K:=(kInt .u32)) (by rfl) y66)<|.nil) (.cons (.refl _) (renV_gr (K:=(kInt .u32)) 134 y66)<|.nil) rfl
instance r05_norm_i (a0:ApiInt) (a1:Int):PC (r05_norm a0 a1) Tryz.prog 117 [(.agg (kN.enc a0)),(.int .i64 a1)] (fun r=>(.agg (kD.enc (⟨((r).M),(r).E⟩:AD)))):=pc func117 (by kernel_rfl) rfl fun E=>by
 unfold r05_norm
 refine .g 12 rfl<|.p0 rfl rfl fun x15 _=>.g 9 rfl<|.ln rfl rfl<|.g 3 rfl<|?_
 refine .cd rfl (fun _ _=>?_) fun _ _=>?_
 ·refine .g 8 rfl<|.fi rfl rfl
 ·refine .g 8 rfl<|?_
  refine .cut (fun x:Int=>(r05_norm_j1 x15 a1 x,[eI 1 a1,eP 4 1,eP 5 2,eI 6 x],[(1,(.live 26 [(.bool false),(slK (kInt .u32) []),(.int .i64 0)])),(2,(.live 24 [(.bool ((x15).Neg)),(slK (kInt .u32) ((x15).Mag))]))])) ?_ ?_
  ·rintro y21
   dsimp only [r05_norm_j1]
   refine .g 8 rfl<|.p0 rfl rfl fun x22 _=>.p0 rfl rfl fun x23 _=>.g 5 rfl<|.dn (by kernel_rfl)<|.g 2 rfl<|.fi rfl rfl
  ·intro h15
   refine .g 1 rfl<|?_
   refine .lp (fun n (x:Int)=>r05_norm_l2 x15 a1 n x) (fun x=>([eI 1 a1,eP 4 1,eP 5 2,eI 6 x],[(1,(.live 26 [(.bool false),(slK (kInt .u32) []),(.int .i64 0)])),(2,(.live 24 [(.bool ((x15).Neg)),(slK (kInt .u32) ((x15).Mag))]))])) 0 [(1,1),(2,2)] rfl ?_
   rintro n2 y27
   try dsimp only
   rw [r05_norm_l2]
   refine .g 6 rfl<|.p0 rfl rfl fun x28 _=>.g 3 rfl<|?_
   refine .cd rfl (fun _ _=>?_) fun _ _=>?_
   ·refine .g 9 rfl<|.ag (IntKind.i64.wrap (y27+1)) [(1,1),(2,2)] rfl
   ·refine .g 4 rfl<|.jw (h15 y27) [(1,1),(2,2)] rfl
instance r05_From_i (a0:Int):PC (r05_From a0) Tryz.prog 56 [(.int .i64 a0)] (fun r=>(.agg (kD.enc (⟨((r).M),(r).E⟩:AD)))):=pc func56 (by kernel_rfl) rfl fun E=>by
 unfold r05_From
 refine .g 8 rfl<|.p0 rfl rfl fun x3 _=>.p0 rfl rfl fun x4 _=>.g 4 rfl<|.fi rfl rfl
instance r04_Same_i (a0:ApiInt) (a1:ApiInt):PC (r04_Same a0 a1) Tryz.prog 208 [(.agg (kN.enc a0)),(.agg (kN.enc a1))] (fun r=>(.bool r)):=pc func208 (by kernel_rfl) rfl fun E=>by
 unfold r04_Same
 refine .g 9 rfl<|?_
 refine .cut (fun x:Bool=>(r04_Same_j1 a0 a1 x,[eP 2 0,eP 3 1,eB 19 x],[(0,(.live 24 [(.bool a0.Neg),(slK (kInt .u32) a0.Mag)])),(1,(.live 24 [(.bool a1.Neg),(slK (kInt .u32) a1.Mag)]))])) ?_ ?_
 ·rintro y6
  dsimp only [r04_Same_j1]
  refine .g 1 rfl<|?_
  refine .cd rfl (fun _ _=>?_) fun _ _=>?_
  ·refine .g 7 rfl<|.fi rfl rfl
  ·refine .g 8 rfl<|?_
   refine .cut (fun x:Unit=>(r04_Same_j2,[],[])) ?_ ?_
   ·rintro _
    dsimp only [r04_Same_j2]
    refine .g 7 rfl<|.fi rfl rfl
   ·intro h34
    refine .g 1 rfl<|?_
    refine .lp (fun n (x:Int)=>r04_Same_l3 a0 a1 n x) (fun x=>([eP 2 0,eP 3 1,eI 5 x],[(0,(.live 24 [(.bool a0.Neg),(slK (kInt .u32) a0.Mag)])),(1,(.live 24 [(.bool a1.Neg),(slK (kInt .u32) a1.Mag)]))])) 0 [(0,0),(1,1)] rfl ?_
    rintro n3 y10
    try dsimp only
    rw [r04_Same_l3]
    refine .g 6 rfl<|.ln rfl rfl<|.g 3 rfl<|?_
    refine .cd rfl (fun _ _=>?_) fun _ _=>?_
    ·refine .g 9 rfl<|.ix rfl rfl<|.g 4 rfl<|.ix rfl rfl<|.g 2 rfl<|.dn (by kernel_rfl)<|.g 1 rfl<|?_
     refine .cd rfl (fun _ _=>?_) fun _ _=>?_
     ·refine .g 11 rfl<|.fi rfl rfl
     ·refine .g 8 rfl<|.ag (IntKind.i64.wrap (y10+1)) [(0,0),(1,1)] rfl
    ·refine .g 4 rfl<|.jw (h34 ()) [] rfl
 ·intro h65
  refine .g 7 rfl<|?_
  refine .gd 11 rfl (fun _=>?_) fun _=>?_
  ·refine .g 9 rfl<|.jw (h65 true) [(0,0),(1,1)] rfl
  ·refine .g 2 rfl<|.ln rfl rfl<|.g 2 rfl<|.ln rfl rfl<|.g 3 rfl<|.jw (h65 ((a0.Mag.length:Int) != (a1.Mag.length:Int))) [(0,0),(1,1)] rfl
instance r05_Same_i (a0:AD) (a1:AD):PC (r05_Same a0 a1) Tryz.prog 142 [(.agg (kD.enc a0)),(.agg (kD.enc a1))] (fun r=>(.bool r)):=pc func142 (by kernel_rfl) rfl fun E=>by
 unfold r05_Same
 refine .g 8 rfl<|?_
 refine .cut (fun x:Bool=>(r05_Same_j1 x,[eB 4 x],[])) ?_ ?_
 ·rintro y5
  dsimp only [r05_Same_j1]
  refine .g 2 rfl<|.fi rfl rfl
 ·intro h3
  refine .g 7 rfl<|?_
  refine .gd 10 rfl (fun _=>?_) fun _=>?_
  ·refine .g 4 rfl<|.p0 rfl rfl fun x6 _=>.g 3 rfl<|.jw (h3 x6) [] rfl
  ·refine .g 8 rfl<|.jw (h3 false) [] rfl
instance r06_Same_i (a0:AI) (a1:AI):PC (r06_Same a0 a1) Tryz.prog 79 [(.agg (kI.enc a0)),(.agg (kI.enc a1))] (fun r=>(.bool r)):=pc func79 (by kernel_rfl) rfl fun E=>by
 unfold r06_Same
 refine .g 8 rfl<|?_
 refine .cut (fun x:Bool=>(r06_Same_j1 x,[eB 4 x],[])) ?_ ?_
 ·rintro y8
  dsimp only [r06_Same_j1]
  refine .g 2 rfl<|.fi rfl rfl
 ·intro h4
  refine .g 5 rfl<|.p0 rfl rfl fun x9 _=>.g 1 rfl<|?_
  refine .gd 10 rfl (fun _=>?_) fun _=>?_
  ·refine .g 4 rfl<|.p0 rfl rfl fun x10 _=>.g 3 rfl<|.jw (h4 x10) [] rfl
  ·refine .g 8 rfl<|.jw (h4 false) [] rfl
instance l11_same_i (a0:AI) (a1:AI):PC (l11_same a0 a1) Tryz.prog 40 [(.agg (kI.enc a0)),(.agg (kI.enc a1))] (fun r=>(.bool r)):=pc func40 (by kernel_rfl) rfl fun E=>by
 unfold l11_same
 refine .g 11 rfl<|.p0 rfl rfl fun x2 _=>.g 4 rfl<|.fi rfl rfl
instance l11_examples_i:PC (l11_examples) Tryz.prog 29 [] (fun r=>(.bool r)):=pc func29 (by kernel_rfl) rfl fun E=>by
 unfold l11_examples
 refine .g 8 rfl<|.p0 rfl rfl fun x6 _=>.g 10 rfl<|.p0 rfl rfl fun x7 _=>.p0 rfl rfl fun x8 _=>.g 12 rfl<|.p0 rfl rfl fun x9 _=>.g 4 rfl<|?_
 refine .cut (fun x:Bool=>(l11_examples_j1 x,[eB 0 x],[])) ?_ ?_
 ·rintro y10
  dsimp only [l11_examples_j1]
  refine .g 2 rfl<|.fi rfl rfl
 ·intro h7
  refine .g 4 rfl<|?_
  refine .gd 21 rfl (fun _=>?_) fun _=>?_
  ·refine .g 3 rfl<|?_
   refine .gd 24 rfl (fun _=>?_) fun _=>?_
   ·refine .g 5 rfl<|.jw (h7 (x8.2 == 4)) [] rfl
   ·refine .g 5 rfl<|.jw (h7 false) [] rfl
  ·refine .g 8 rfl<|.jw (h7 false) [] rfl
instance l11_prec_i (a0:Int):PC (l11_prec a0) Tryz.prog 30 [(.int .i64 a0)] (fun r=>(.int .i64 r)):=pc func30 (by kernel_rfl) rfl fun E=>by
 unfold l11_prec
 refine .g 12 rfl<|?_
 refine .cut (fun x:Int=>(l11_prec_j1 x,[eI 0 x],[])) ?_ ?_
 ·rintro y2
  dsimp only [l11_prec_j1]
  refine .g 10 rfl<|.fi rfl rfl
 ·intro h3
  refine .cd rfl (fun _ _=>?_) fun _ _=>?_
  ·refine .g 6 rfl<|.jw (h3 (IntKind.i64.wrap (0-(IntKind.i64.wrap (a0+1))))) [] rfl
  ·refine .g 1 rfl<|.jw (h3 a0) [] rfl
instance r01_Bits_i (a0:List Int):PC (r01_Bits a0) Tryz.prog 156 [(slK (kInt .u32) a0)] (fun r=>(.int .i64 r)):=pc func156 (by kernel_rfl) rfl fun E=>by
 unfold r01_Bits
 refine .g 8 rfl<|.p0 rfl rfl fun x11 _=>.g 7 rfl<|.ln rfl rfl<|.g 3 rfl<|?_
 refine .cd rfl (fun _ _=>?_) fun _ _=>?_
 ·refine .g 7 rfl<|.fi rfl rfl
 ·refine .g 5 rfl<|.ln rfl rfl<|.g 10 rfl<|.ln rfl rfl<|.g 1 rfl<|.ix rfl rfl<|.g 4 rfl<|?_
  refine .cut (fun x:Int=>(r01_Bits_j1 x,[eI 4 x],[])) ?_ ?_
  ·rintro y16
   dsimp only [r01_Bits_j1]
   refine .g 8 rfl<|.fi rfl rfl
  ·intro h11
   refine .g 1 rfl<|?_
   refine .lp (fun n (x:Int × Int)=>r01_Bits_l2 n x.1 x.2) (fun x=>([eI 4 x.1,eW 5 x.2],[])) ((IntKind.i64.wrap (32*(IntKind.i64.wrap ((x11.length:Int)-1)))),(x11.getD ((IntKind.i64.wrap ((x11.length:Int)-1)).toNat) (kInt .u32).z)) [] rfl ?_
   rintro n2 ⟨y19,y20⟩
   try dsimp only
   rw [r01_Bits_l2]
   refine .g 7 rfl<|?_
   refine .cd rfl (fun _ _=>?_) fun _ _=>?_
   ·refine .g 16 rfl<|.ag ((IntKind.i64.wrap (y19+1)),(shrI .u32 y20 1)) [] rfl
   ·refine .g 4 rfl<|.jw (h11 y19) [] rfl
instance r05_size_i (a0:AD):PC (r05_size a0) Tryz.prog 190 [(.agg (kD.enc a0))] (fun r=>(.int .i64 r)):=pc func190 (by kernel_rfl) rfl fun E=>by
 unfold r05_size
 refine .g 13 rfl<|.p0 rfl rfl fun x2 _=>.g 2 rfl<|.dn (by kernel_rfl)<|.g 2 rfl<|.fi rfl rfl
instance r05_inRange_i (a0:AD):PC (r05_inRange a0) Tryz.prog 122 [(.agg (kD.enc a0))] (fun r=>(.bool r)):=pc func122 (by kernel_rfl) rfl fun E=>by
 unfold r05_inRange
 refine .g 12 rfl<|.ln rfl rfl<|.g 3 rfl<|?_
 refine .cd rfl (fun _ _=>?_) fun _ _=>?_
 ·refine .g 7 rfl<|.fi rfl rfl
 ·refine .g 5 rfl<|.p0 rfl rfl fun x5 _=>.g 4 rfl<|?_
  refine .cut (fun x:Bool=>(r05_inRange_j1 x,[eB 2 x],[])) ?_ ?_
  ·rintro y7
   dsimp only [r05_inRange_j1]
   refine .g 2 rfl<|.fi rfl rfl
  ·intro h9
   refine .g 4 rfl<|?_
   refine .gd 13 rfl (fun _=>?_) fun _=>?_
   ·refine .g 4 rfl<|?_
    refine .gd 17 rfl (fun _=>?_) fun _=>?_
    ·refine .g 5 rfl<|?_
     refine .gd 22 rfl (fun _=>?_) fun _=>?_
     ·refine .g 5 rfl<|?_
      refine .gd 27 rfl (fun _=>?_) fun _=>?_
      ·refine .g 3 rfl<|.p0 rfl rfl fun x8 _=>.g 4 rfl<|.jw (h9 (decide (x8≤262144))) [] rfl
      ·refine .g 8 rfl<|.jw (h9 false) [] rfl
     ·refine .g 13 rfl<|.jw (h9 false) [] rfl
    ·refine .g 18 rfl<|.jw (h9 false) [] rfl
   ·refine .g 22 rfl<|.jw (h9 false) [] rfl
instance r05_Make_i (a0:ApiInt) (a1:Int):PC (r05_Make a0 a1) Tryz.prog 58 [(.agg (kN.enc a0)),(.int .i64 a1)] (fun r=>(.tup [(.agg (kD.enc (⟨((r.1).M),(r.1).E⟩:AD))),(.bool r.2)])):=pc func58 (by kernel_rfl) rfl fun E=>by
 unfold r05_Make
 refine .g 9 rfl<|?_
 refine .cut (fun x:Bool=>(r05_Make_j1 a0 a1 x,[eI 1 a1,eP 2 0,eP 4 1,eB 13 x],[(0,(.live 24 [(.bool a0.Neg),(slK (kInt .u32) a0.Mag)])),(1,(.live 26 [(.bool false),(slK (kInt .u32) []),(.int .i64 0)]))])) ?_ ?_
 ·rintro y4
  dsimp only [r05_Make_j1]
  refine .g 1 rfl<|?_
  refine .cd rfl (fun _ _=>?_) fun _ _=>?_
  ·refine .g 9 rfl<|.fi rfl rfl
  ·refine .g 6 rfl<|.p0 rfl rfl fun x5 _=>.g 7 rfl<|.p0 rfl rfl fun x6 _=>.g 10 rfl<|?_
   refine .cd rfl (fun _ _=>?_) fun _ _=>?_
   ·refine .g 9 rfl<|.fi rfl rfl
   ·refine .g 10 rfl<|.fi rfl rfl
 ·intro h8
  refine .g 4 rfl<|?_
  refine .gd 10 rfl (fun _=>?_) fun _=>?_
  ·refine .g 4 rfl<|.jw (h8 true) [(0,0),(1,1)] rfl
  ·refine .g 4 rfl<|.jw (h8 (decide (a1>100000))) [(0,0),(1,1)] rfl
instance l11_place_i (a0:AD):PC (l11_place a0) Tryz.prog 31 [(.agg (kD.enc a0))] (fun r=>(.agg (kD.enc (⟨((r).M),(r).E⟩:AD)))):=pc func31 (by kernel_rfl) rfl fun E=>by
 unfold l11_place
 refine .g 17 rfl<|.ln rfl rfl<|.g 1 rfl<|.guard fun h1=>.sv (slK (kInt .u32) (a0.M.Mag.take ((mn (a0.M.Mag.length:Int) 2).toNat))) [] rfl (snd_sliceK (kInt .u32) _ _ _ _ _ _ 0 (mn (a0.M.Mag.length:Int) 2) rfl underlying22 si134 rfl rfl rfl rfl rfl h1) rfl<|.p0 rfl rfl fun x3 _=>.p0 rfl rfl fun x4 _=>.g 6 rfl<|.dn (by kernel_rfl)<|.g 8 rfl<|.fi rfl rfl
instance erff_Erfc_i (a0:AD) (a1:Int):PC (erff_Erfc a0 a1) Tryz.prog 34 [(.agg (kD.enc a0)),(.int .i64 a1)] (fun r=>(.tup [(.agg (kI.enc (⟨⟨(((r.1).Lo).M),((r.1).Lo).E⟩,⟨(((r.1).Hi).M),((r.1).Hi).E⟩⟩:AI))),(.int .i64 r.2)])):=pc func34 (by kernel_rfl) rfl fun E=>by
 unfold erff_Erfc
 refine .g 12 rfl<|.p0 rfl rfl fun x9 _=>.g 9 rfl<|?_
 refine .cd rfl (fun _ _=>?_) fun _ _=>?_
 ·refine .g 10 rfl<|.fi rfl rfl
 ·refine .g 7 rfl<|.p0 rfl rfl fun x10 _=>.g 15 rfl<|?_
  refine .cd rfl (fun _ _=>?_) fun _ _=>?_
  ·refine .g 10 rfl<|.fi rfl rfl
  ·refine .g 6 rfl<|.bind fun x11 h7=>?_
   rcases x11 with x12 | x13
   ·dsimp only
    refine .st rfl (cl (iv_New_k_0 h7) [] [3] [true] rfl (.i<|.nil) .nil (fresh_cons rfl fnil) (.cons .dead .nil) (ren_tupL (.cons .nilptr<|.i<|.nil)) (.turned .nil) rfl) rfl<|.g 12 rfl<|.no
   ·dsimp only
    refine .st rfl (cl (iv_New_k_1 h7) [] [3] [true] rfl (.i<|.nil) .nil (fresh_cons rfl fnil) (.cons (.v (.i<|.i<|.nil)) .nil) (ren_tupL (.p rfl<|.i<|.nil)) (.turned .nil) rfl) rfl<|.g 12 rfl<|.bind fun x14 h8=>.st rfl (cl (CC.h h8) [3] [] [true] rfl (.p rfl<|.i<|.nil) (.p rfl (.i<|.i<|.nil) .nil) fnil (.cons (.v (.i<|.i<|.nil)) .nil) (ren_agg (K:=kI) _) (.turned .nil) rfl) rfl<|.g 1 rfl<|.bind fun x15 h9=>.st rfl (cl (CC.h h9) [3] [] [true] rfl (.p rfl<|.a kI<|.a kI<|.nil) (.p rfl (.i<|.i<|.nil) .nil) fnil (.cons (.v (.i<|.i<|.nil)) .nil) (ren_agg (K:=kI) _) (.turned .nil) rfl) rfl<|.g 1 rfl<|.bind fun x16 h10=>.st rfl (cl (CC.h h10) [3] [] [false] rfl (.p rfl<|.a kI<|.i<|.nil) (.p rfl (.i<|.i<|.nil) .nil) fnil (.cons (.v (.i<|.i<|.nil)) .nil) (ren_tupL (.a kI<|.i<|.nil)) (.kept rfl .nil) rfl) rfl<|.g 4 rfl<|.dn (by kernel_rfl)<|.g 2 rfl<|.fi rfl rfl
instance l11_ErffRises_i (a0:AD) (a1:AD) (a2:Int):PC (l11_ErffRises a0 a1 a2) Tryz.prog 4 [(.agg (kD.enc a0)),(.agg (kD.enc a1)),(.int .i64 a2)] (fun r=>(.bool r)):=pc func4 (by kernel_rfl) rfl fun E=>by
 unfold l11_ErffRises
 refine .g 9 rfl<|.p0 rfl rfl fun x31 _=>.g 10 rfl<|?_
 refine .cd rfl (fun _ _=>?_) fun _ _=>?_
 ·refine .g 7 rfl<|.fi rfl rfl
 ·refine .g 5 rfl<|.p0 rfl rfl fun x32 _=>.g 6 rfl<|.p0 rfl rfl fun x33 _=>.g 7 rfl<|.p0 rfl rfl fun x34 _=>.g 9 rfl<|.p0 rfl rfl fun x35 _=>.g 3 rfl<|?_
  refine .cut (fun x:Bool × (List Int) × Int × Bool × (List Int) × Int=>(l11_ErffRises_j1 x32 x31 x.1 x.2.1 x.2.2.1 x.2.2.2.1 x.2.2.2.2.1 x.2.2.2.2.2,[eI 2 x32,eB 7 x31,eP 8 2,eP 9 3],[(2,(.live 26 [(.bool x.1),(slK (kInt .u32) x.2.1),(.int .i64 x.2.2.1)])),(3,(.live 26 [(.bool x.2.2.2.1),(slK (kInt .u32) x.2.2.2.2.1),(.int .i64 x.2.2.2.2.2)]))])) ?_ ?_
  ·rintro ⟨y36,y37,y38,y39,y40,y41⟩
   dsimp only [l11_ErffRises_j1]
   refine .g 5 rfl<|.p0 rfl rfl fun x42 _=>.g 12 rfl<|.p0 rfl rfl fun x43 _=>.g 12 rfl<|.p0 rfl rfl fun x44 _=>.g 12 rfl<|.p0 rfl rfl fun x45 _=>.g 9 rfl<|?_
   refine .cut (fun x:Bool=>(l11_ErffRises_j2 x,[eB 6 x],[])) ?_ ?_
   ·rintro y53
    dsimp only [l11_ErffRises_j2]
    refine .g 2 rfl<|.fi rfl rfl
   ·intro h30
    refine .g 3 rfl<|?_
    refine .gd 58 rfl (fun _=>?_) fun _=>?_
    ·refine .g 4 rfl<|?_
     refine .gd 62 rfl (fun _=>?_) fun _=>?_
     ·refine .g 4 rfl<|?_
      refine .gd 66 rfl (fun _=>?_) fun _=>?_
      ·refine .g 4 rfl<|?_
       refine .gd 70 rfl (fun _=>?_) fun _=>?_
       ·refine .g 4 rfl<|?_
        refine .gd 74 rfl (fun _=>?_) fun _=>?_
        ·refine .g 4 rfl<|.p0 rfl rfl fun x54 _=>.g 3 rfl<|?_
         refine .gd 82 rfl (fun _=>?_) fun _=>?_
         ·refine .g 4 rfl<|.p0 rfl rfl fun x55 _=>.g 3 rfl<|?_
          refine .gd 90 rfl (fun _=>?_) fun _=>?_
          ·refine .g 2 rfl<|.p0 rfl rfl fun x56 _=>.p0 rfl rfl fun x57 _=>.g 3 rfl<|?_
           refine .gd 97 rfl (fun _=>?_) fun _=>?_
           ·refine .g 2 rfl<|.p0 rfl rfl fun x58 _=>.p0 rfl rfl fun x59 _=>.g 3 rfl<|?_
            refine .gd 104 rfl (fun _=>?_) fun _=>?_
            ·refine .g 3 rfl<|.p0 rfl rfl fun x60 _=>.g 3 rfl<|.dn (by kernel_rfl)<|.jw (h30 (decide (x60>0))) [] rfl
            ·refine .g 7 rfl<|.dn (by kernel_rfl)<|.jw (h30 false) [] rfl
           ·refine .g 14 rfl<|.dn (by kernel_rfl)<|.jw (h30 false) [] rfl
          ·refine .g 21 rfl<|.dn (by kernel_rfl)<|.jw (h30 false) [] rfl
         ·refine .g 29 rfl<|.dn (by kernel_rfl)<|.jw (h30 false) [] rfl
        ·refine .g 37 rfl<|.dn (by kernel_rfl)<|.jw (h30 false) [] rfl
       ·refine .g 41 rfl<|.dn (by kernel_rfl)<|.jw (h30 false) [] rfl
      ·refine .g 45 rfl<|.dn (by kernel_rfl)<|.jw (h30 false) [] rfl
     ·refine .g 49 rfl<|.dn (by kernel_rfl)<|.jw (h30 false) [] rfl
    ·refine .g 53 rfl<|.dn (by kernel_rfl)<|.jw (h30 false) [] rfl
  ·intro h47
   refine .cd rfl (fun _ _=>?_) fun _ _=>?_
   ·refine .g 6 rfl<|.jw (h47 (((x34).M).Neg,((x34).M).Mag,(x34).E,((x33).M).Neg,((x33).M).Mag,(x33).E)) [(2,2),(3,3)] rfl
   ·refine .g 1 rfl<|.jw (h47 (((x33).M).Neg,((x33).M).Mag,(x33).E,((x34).M).Neg,((x34).M).Mag,(x34).E)) [(2,2),(3,3)] rfl
end Go.Proofs.YtjffljhmjdljeaaGreat.Gen
