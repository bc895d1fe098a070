/- Printed by geng.py: a call does what the plain function says. -/
import Derived.Test.YtpmpcohbpankaaaGreatKonstRootGenP3
set_option maxRecDepth 4000
namespace Go.Proofs.YtpmpcohbpankaaaGreat.Gen
open Go Go.Abs Go.Proofs Go.Proofs.Tryz
instance small_odd_1_da03_i (a0:Int) (a1:AI) (a2:Int) (a3:Int) (a4:Bool) (a5:List Int) (a6:Int) (a7:Bool) (a8:List Int) (a9:Int):CC (small_odd_1_da03 a0 a1 a2 a3 a4 a5 a6 a7 a8 a9) Tryz.prog 175 [(.int .i64 a0),(.agg (kI.enc a1)),(.ptr 0 0),(.ptr 1 0),(.ptr 3 0)] [(.live 47 [(.fn 120 [] [])]),(.live 28 [(.ptr 2 0)]),(.live 45 [(.int .i64 a2),(.int .i64 a3)]),(.live 34 [(.bool a4),(slK (kInt .u32) a5),(.int .i64 a6),(.bool a7),(slK (kInt .u32) a8),(.int .i64 a9)])] (fun r=>(.tup [(.agg (kI.enc (⟨⟨(((r.1).Lo).M),((r.1).Lo).E⟩,⟨(((r.1).Hi).M),((r.1).Hi).E⟩⟩:AI))),(.agg (kI.enc (⟨⟨(((r.2.1).Lo).M),((r.2.1).Lo).E⟩,⟨(((r.2.1).Hi).M),((r.2.1).Hi).E⟩⟩:AI)))])) (fun r=>[(.live 47 [(.fn 120 [] [])]),(.live 28 [(.ptr 2 0)]),(.live 45 [(.int .i64 r.2.2),(.int .i64 a3)]),(.live 34 [(.bool a4),(slK (kInt .u32) a5),(.int .i64 a6),(.bool a7),(slK (kInt .u32) a8),(.int .i64 a9)])]):=cc func175 (by kernel_rfl) rfl fun E=>by
 unfold small_odd_1_da03
 refine .g 13 rfl<|.bind fun x5 h1=>.st rfl (cl (CC.h h1) [2] [] [true] rfl (.p rfl<|.a kI<|.a kI<|.nil) (.p rfl (.i<|.i<|.nil) .nil) fnil (.cons (.v (.i<|.i<|.nil)) .nil) (ren_agg (K:=kI) _) (.turned .nil) rfl) rfl<|.p0 rfl rfl fun x6 _=>.g 1 rfl<|.dn (by kernel_rfl)<|.g 10 rfl<|.bind fun x7 h3=>.st rfl (cl (CC.h h3) [2] [] [true] rfl (.p rfl<|.i<|.nil) (.p rfl (.i<|.i<|.nil) .nil) fnil (.cons (.v (.i<|.i<|.nil)) .nil) (ren_agg (K:=kI) _) (.turned .nil) rfl) rfl<|.bind fun x8 h4=>.st rfl (cl (CC.h h4) [2] [] [true] rfl (.p rfl<|.a kI<|.a kI<|.nil) (.p rfl (.i<|.i<|.nil) .nil) fnil (.cons (.v (.i<|.i<|.nil)) .nil) (ren_agg (K:=kI) _) (.turned .nil) rfl) rfl<|.g 2 rfl<|.dn (by kernel_rfl)<|.g 2 rfl<|.fi rfl rfl
instance small_series_78b1_i (a0:AI) (a1:Int) (a2:Int) (a3:Bool) (a4:List Int) (a5:Int) (a6:Bool) (a7:List Int) (a8:Int):CC (small_series_78b1 a0 a1 a2 a3 a4 a5 a6 a7 a8) Tryz.prog 154 [(.ptr 0 0),(.agg (kI.enc a0)),(.fn 175 [] [(.ptr 1 0),(.ptr 2 0),(.ptr 3 0)])] [(.live 45 [(.int .i64 a1),(.int .i64 a2)]),(.live 47 [(.fn 120 [] [])]),(.live 28 [(.ptr 0 0)]),(.live 34 [(.bool a3),(slK (kInt .u32) a4),(.int .i64 a5),(.bool a6),(slK (kInt .u32) a7),(.int .i64 a8)])] (fun r=>(.agg (kI.enc (⟨⟨(((r.1).Lo).M),((r.1).Lo).E⟩,⟨(((r.1).Hi).M),((r.1).Hi).E⟩⟩:AI)))) (fun r=>[(.live 45 [(.int .i64 r.2),(.int .i64 a2)]),(.live 47 [(.fn 120 [] [])]),(.live 28 [(.ptr 0 0)]),(.live 34 [(.bool a3),(slK (kInt .u32) a4),(.int .i64 a5),(.bool a6),(slK (kInt .u32) a7),(.int .i64 a8)])]):=cc func154 (by kernel_rfl) rfl fun E=>by
 unfold small_series_78b1
 refine .g 14 rfl<|.dn (by kernel_rfl)<|.g 5 rfl<|.bind fun x93 h1=>.st rfl (cl (CC.h h1) [0] [] [false] rfl (.p rfl<|.nil) (.p rfl (.i<|.i<|.nil) .nil) fnil (.cons (.v (.i<|.i<|.nil)) .nil) (.int _ _) (.kept rfl .nil) rfl) rfl<|.p0 rfl rfl fun x94 _=>.g 3 rfl<|?_
 refine .cut (fun x:Int × Bool × (List Int) × Int × Bool × (List Int) × Int=>(small_series_78b1_j1 a2 x.1 x.2.1 x.2.2.1 x.2.2.2.1 x.2.2.2.2.1 x.2.2.2.2.2.1 x.2.2.2.2.2.2,[eP 0 0,eP 6 5,eP 7 6],[(0,(.live 45 [(.int .i64 x.1),(.int .i64 a2)])),(1,(.live 47 [(.fn 120 [] [])])),(2,(.live 28 [(.ptr 0 0)])),(3,(.live 34 [(.bool a3),(slK (kInt .u32) a4),(.int .i64 a5),(.bool a6),(slK (kInt .u32) a7),(.int .i64 a8)])),(5,(.live 34 [(.bool false),(slK (kInt .u32) []),(.int .i64 0),(.bool false),(slK (kInt .u32) []),(.int .i64 0)])),(6,(.live 34 [(.bool x.2.1),(slK (kInt .u32) x.2.2.1),(.int .i64 x.2.2.2.1),(.bool x.2.2.2.2.1),(slK (kInt .u32) x.2.2.2.2.2.1),(.int .i64 x.2.2.2.2.2.2)]))])) ?_ ?_
 ·rintro ⟨y135,y136,y137,y138,y139,y140,y141⟩
  dsimp only [small_series_78b1_j1]
  refine .g 6 rfl<|.bind fun x142 h21=>.st rfl (cl (CC.h h21) [0] [] [false] rfl (.p rfl<|.nil) (.p rfl (.i<|.i<|.nil) .nil) fnil (.cons (.v (.i<|.i<|.nil)) .nil) (.int _ _) (.kept rfl .nil) rfl) rfl<|.g 1 rfl<|.p0 rfl rfl fun x143 _=>.bind fun x144 h23=>.st rfl (cl (CC.h h23) [0] [] [true] rfl (.p rfl<|.a kI<|.a kD<|.nil) (.p rfl (.i<|.i<|.nil) .nil) fnil (.cons (.v (.i<|.i<|.nil)) .nil) (ren_agg (K:=kI) _) (.turned .nil) rfl) rfl<|.g 1 rfl<|.dn (by kernel_rfl)<|.g 2 rfl<|.fi rfl rfl
 ·intro h24
  refine .g 1 rfl<|?_
  refine .lp (fun n (x:Int × Int × Bool × (List Int) × Int × Bool × (List Int) × Int × Bool × (List Int) × Int × Bool × (List Int) × Int)=>small_series_78b1_l2 x94 a2 a3 a4 a5 a6 a7 a8 n x.1 x.2.1 x.2.2.1 x.2.2.2.1 x.2.2.2.2.1 x.2.2.2.2.2.1 x.2.2.2.2.2.2.1 x.2.2.2.2.2.2.2.1 x.2.2.2.2.2.2.2.2.1 x.2.2.2.2.2.2.2.2.2.1 x.2.2.2.2.2.2.2.2.2.2.1 x.2.2.2.2.2.2.2.2.2.2.2.1 x.2.2.2.2.2.2.2.2.2.2.2.2.1 x.2.2.2.2.2.2.2.2.2.2.2.2.2) (fun x=>([eP 0 0,(2,some (.fn 175 [] [(.ptr 1 0),(.ptr 2 0),(.ptr 3 0)])),eP 6 5,eP 7 6,eP 8 7,eI 15 x94,eI 16 x.1],[(0,(.live 45 [(.int .i64 x.2.1),(.int .i64 a2)])),(1,(.live 47 [(.fn 120 [] [])])),(2,(.live 28 [(.ptr 0 0)])),(3,(.live 34 [(.bool a3),(slK (kInt .u32) a4),(.int .i64 a5),(.bool a6),(slK (kInt .u32) a7),(.int .i64 a8)])),(5,(.live 34 [(.bool false),(slK (kInt .u32) []),(.int .i64 0),(.bool false),(slK (kInt .u32) []),(.int .i64 0)])),(6,(.live 34 [(.bool x.2.2.1),(slK (kInt .u32) x.2.2.2.1),(.int .i64 x.2.2.2.2.1),(.bool x.2.2.2.2.2.1),(slK (kInt .u32) x.2.2.2.2.2.2.1),(.int .i64 x.2.2.2.2.2.2.2.1)])),(7,(.live 34 [(.bool x.2.2.2.2.2.2.2.2.1),(slK (kInt .u32) x.2.2.2.2.2.2.2.2.2.1),(.int .i64 x.2.2.2.2.2.2.2.2.2.2.1),(.bool x.2.2.2.2.2.2.2.2.2.2.2.1),(slK (kInt .u32) x.2.2.2.2.2.2.2.2.2.2.2.2.1),(.int .i64 x.2.2.2.2.2.2.2.2.2.2.2.2.2)]))])) (0,a1,a0.Lo.M.Neg,a0.Lo.M.Mag,a0.Lo.E,a0.Hi.M.Neg,a0.Hi.M.Mag,a0.Hi.E,a0.Lo.M.Neg,a0.Lo.M.Mag,a0.Lo.E,a0.Hi.M.Neg,a0.Hi.M.Mag,a0.Hi.E) [(0,0),(1,1),(2,2),(3,3),(5,5),(6,6),(7,7)] rfl ?_
  rintro n2 ⟨y167,y168,y169,y170,y171,y172,y173,y174,y175,y176,y177,y178,y179,y180⟩
  try dsimp only
  rw [small_series_78b1_l2]
  refine .g 6 rfl<|?_
  refine .cd rfl (fun _ _=>?_) fun _ _=>?_
  ·refine .g 21 rfl<|.bind fun x183 h41=>.st rfl (cl (CC.h h41) [1,2,0,3] [] [false,false,true,false] rfl (.i<|.a kI<|.p rfl<|.p rfl<|.p rfl<|.nil) (.p rfl (.cons (ren_fnL _ .nil .nil)<|.nil) (.p rfl (.p rfl<|.nil) (.p rfl (.i<|.i<|.nil) (.p rfl (.b<|.l<|.i<|.b<|.l<|.i<|.nil) .nil)))) fnil (.cons (.v (.cons (ren_fnL _ .nil .nil)<|.nil)) (.cons (.v (.p rfl<|.nil)) (.cons (.v (.i<|.i<|.nil)) (.cons (.v (.b<|.l<|.i<|.b<|.l<|.i<|.nil)) .nil)))) (ren_tupL (.a kI<|.a kI<|.nil)) (.kept rfl (.kept rfl (.turned (.kept rfl .nil)))) rfl) rfl<|.g 11 rfl<|.bind fun x184 h42=>.st rfl (cl (CC.h h42) [0] [] [true] rfl (.p rfl<|.a kI<|.a kI<|.nil) (.p rfl (.i<|.i<|.nil) .nil) fnil (.cons (.v (.i<|.i<|.nil)) .nil) (ren_agg (K:=kI) _) (.turned .nil) rfl) rfl<|.g 8 rfl<|.ag ((IntKind.i64.wrap (y167+1)),x184.2,(((x184.1).Lo).M).Neg,(((x184.1).Lo).M).Mag,((x184.1).Lo).E,(((x184.1).Hi).M).Neg,(((x184.1).Hi).M).Mag,((x184.1).Hi).E,(((x183.1).Lo).M).Neg,(((x183.1).Lo).M).Mag,((x183.1).Lo).E,(((x183.1).Hi).M).Neg,(((x183.1).Hi).M).Mag,((x183.1).Hi).E) [(0,0),(1,1),(2,2),(3,3),(5,5),(6,6),(7,7)] rfl
  ·refine .g 4 rfl<|.jw (h24 (y168,y169,y170,y171,y172,y173,y174)) [(0,0),(1,1),(2,2),(3,3),(5,5),(6,6)] rfl
instance small_odd_cdf0_i (a0:AI) (a1:Int) (a2:Int):CC (small_odd_cdf0 a0 a1 a2) Tryz.prog 119 [(.ptr 0 0),(.agg (kI.enc a0)),(.fn 120 [] [])] [(.live 45 [(.int .i64 a1),(.int .i64 a2)])] (fun r=>(.agg (kI.enc (⟨⟨(((r.1).Lo).M),((r.1).Lo).E⟩,⟨(((r.1).Hi).M),((r.1).Hi).E⟩⟩:AI)))) (fun r=>[(.live 45 [(.int .i64 r.2),(.int .i64 a2)])]):=cc func119 (by kernel_rfl) rfl fun E=>by
 unfold small_odd_cdf0
 refine .g 13 rfl<|.bind fun x4 h1=>.st rfl (cl (CC.h h1) [0] [] [true] rfl (.p rfl<|.a kI<|.i<|.nil) (.p rfl (.i<|.i<|.nil) .nil) fnil (.cons (.v (.i<|.i<|.nil)) .nil) (.bool _) (.turned .nil) rfl) rfl<|.g 3 rfl<|?_
 refine .cd rfl (fun _ _=>?_) fun _ _=>?_
 ·refine .g 8 rfl<|.fi rfl rfl
 ·refine .g 7 rfl<|.bind fun x5 h4=>.st rfl (cl (CC.h h4) [0] [] [true] rfl (.p rfl<|.a kI<|.a kI<|.nil) (.p rfl (.i<|.i<|.nil) .nil) fnil (.cons (.v (.i<|.i<|.nil)) .nil) (ren_agg (K:=kI) _) (.turned .nil) rfl) rfl<|.g 9 rfl<|.bind fun x6 h5=>.st rfl (cl (CC.h h5) [0,3,1,5] [] [true,false,false,false] rfl (.p rfl<|.a kI<|.cons (ren_fnL _ .nil (.p rfl<|.p rfl<|.p rfl<|.nil))<|.nil) (.p rfl (.i<|.i<|.nil) (.p rfl (.cons (ren_fnL _ .nil .nil)<|.nil) (.p rfl (.p rfl<|.nil) (.p rfl (.b<|.l<|.i<|.b<|.l<|.i<|.nil) .nil)))) fnil (.cons (.v (.i<|.i<|.nil)) (.cons (.v (.cons (ren_fnL _ .nil .nil)<|.nil)) (.cons (.v (.p rfl<|.nil)) (.cons (.v (.b<|.l<|.i<|.b<|.l<|.i<|.nil)) .nil)))) (ren_agg (K:=kI) _) (.turned (.kept rfl (.kept rfl (.kept rfl .nil)))) rfl) rfl<|.g 4 rfl<|.fi rfl rfl
instance small_Atanh_i (a0:AI) (a1:Int) (a2:Int):CC (small_Atanh a0 a1 a2) Tryz.prog 54 [(.ptr 0 0),(.agg (kI.enc a0))] [(.live 45 [(.int .i64 a1),(.int .i64 a2)])] (fun r=>(.agg (kI.enc (⟨⟨(((r.1).Lo).M),((r.1).Lo).E⟩,⟨(((r.1).Hi).M),((r.1).Hi).E⟩⟩:AI)))) (fun r=>[(.live 45 [(.int .i64 r.2),(.int .i64 a2)])]):=cc func54 (by kernel_rfl) rfl fun E=>by
 unfold small_Atanh
 refine .g 10 rfl<|.bind fun x2 h1=>.st rfl (cl (CC.h h1) [0] [] [true] rfl (.p rfl<|.a kI<|.cons (ren_fnL _ .nil .nil)<|.nil) (.p rfl (.i<|.i<|.nil) .nil) fnil (.cons (.v (.i<|.i<|.nil)) .nil) (ren_agg (K:=kI) _) (.turned .nil) rfl) rfl<|.g 4 rfl<|.fi rfl rfl
instance konst_parts_b550_i (a0:Int) (a1:Int) (a2:Int) (a3:Int):CC (konst_parts_b550 a0 a1 a2 a3) Tryz.prog 124 [(.ptr 0 0),(.sl [[(.fn 54 [] []),(.int .i64 a0),(.int .i64 a1)]])] [(.live 45 [(.int .i64 a2),(.int .i64 a3)])] (fun r=>(slK kI r.1)) (fun r=>[(.live 45 [(.int .i64 r.2),(.int .i64 a3)])]):=cc func124 (by kernel_rfl) rfl fun E=>by
 unfold konst_parts_b550
 refine .g 14 rfl<|.sv (.int .i64 1) [] rfl (snd_len _ _ _ _ _ rfl underlying154 rfl rfl rfl rfl) rfl<|.g 3 rfl<|?_
 refine .cut (fun x:Int × (List AI)=>(konst_parts_b550_j1 a1 a3 x.1 x.2,[eP 0 0,(1,some (.sl [[(.fn 54 [] []),(.int .i64 a0),(.int .i64 a1)]])),(5,some (grA kI 1 x.2))],[(0,(.live 45 [(.int .i64 x.1),(.int .i64 a3)])),(1,(grV kI 34 x.2))])) ?_ ?_
 ·rintro ⟨y119,y120⟩
  dsimp only [konst_parts_b550_j1]
  refine .g 5 rfl<|.sv (.int .i64 1) [] rfl (snd_len _ _ _ _ _ rfl underlying154 rfl rfl rfl rfl) rfl<|.g 3 rfl<|?_
  refine .cut (fun x:Int × (List AI)=>(konst_parts_b550_j2 x.1 x.2,[(5,some (grA kI 1 x.2))],[(0,(.live 45 [(.int .i64 x.1),(.int .i64 a3)])),(1,(grV kI 34 x.2))])) ?_ ?_
  ·rintro ⟨y133,y134⟩
   dsimp only [konst_parts_b550_j2]
   refine .g 8 rfl<|?_
   refine .weak ?_ (fun a w h=>Conc.gr_still kI h 4 1 34 y134 rfl rfl)
   exact .fi rfl rfl
  ·intro h71
   refine .g 1 rfl<|?_
   refine .lo (fun n (x:Int × Int × (List AI))=>konst_parts_b550_l3 a1 a3 n x.1 x.2.1 x.2.2) (fun x=>([eP 0 0,(5,some (grA kI 1 x.2.2)),(32,some (.sl [[(.fn 54 [] []),(.int .i64 a0),(.int .i64 a1)]])),eI 33 1,eI 34 x.1],[(0,(.live 45 [(.int .i64 x.2.1),(.int .i64 a3)])),(1,(grV kI 34 x.2.2))])) (0,y119,y120) rfl (fun hE=>jn (m:=1) [(0,0),(1,1)] hE (.p rfl rfl<|.g rfl (ren_gr (K:=kI) (by rfl) y120)<|.g rfl (ren_slL (.cons (.cons (ren_fnL _ .nil .nil)<|.i<|.i<|.nil) .nil))<|.i rfl<|.i rfl<|.nil) (.v rfl (.i<|.i<|.nil)<|.cons (.refl _) (renV_gr (K:=kI) 34 y120)<|.nil) rfl) ?_
   rintro n3 ⟨y142,y143,y144⟩
   try dsimp only
   rw [konst_parts_b550_l3]
   refine .g 6 rfl<|?_
   refine .cd rfl (fun _ _=>?_) fun _ _=>?_
   ·refine .g 7 rfl<|?_
    refine .ite (fun h99=>?_) (fun h99=>?_)
    ·refine .sv (.iptr [(.fn 54 [] []),(.int .i64 a0),(.int .i64 a1)]) [] rfl (snd_index_at 0 _ _ _ _ _ _ _ _ rfl underlying154 si126 rfl rfl rfl rfl (by intro e he; simp at he; rcases he with rfl<;>rfl) rfl h99 rfl) rfl<|.g 6 rfl<|.guard fun h100=>?_
     refine .weak ?_ (fun a w h=>Conc.gr_open1 kI h 5 1 y144 (by omega) rfl)
     refine .weak ?_ (fun a w h=>Conc.gr_openV kI h 1 34 y144 (by omega) rfl)
     refine .g 6 rfl<|.guard fun h101=>?_
     obtain ⟨h1011,h1012⟩:=h101
     refine .sv (.rptr 1 kI.sz y142.toNat 0) [] rfl (idx_r (snd_index_r _ _ _ _ _ 1 0 ((y144).length) _ y142 rfl underlying104 si34 rfl rfl rfl rfl h1011 (by omega)) (Nat.zero_add _)) rfl<|.sv (.agg (kI.enc (⟨⟨((((y144).getD y142.toNat zAI).Lo).M),(((y144).getD y142.toNat zAI).Lo).E⟩,⟨((((y144).getD y142.toNat zAI).Hi).M),(((y144).getD y142.toNat zAI).Hi).E⟩⟩:AI))) [] rfl (snd_loadK_agg kI _ _ 1 y142.toNat 0 6 _ _ rfl ag34 rfl rfl rfl rfl (by first | omega | (simp only [List.length_set]; omega)) (by decide)) rfl<|.g 2 rfl<|.bind fun x146 h102=>.st rfl (cl (CC.h h102) [0] [] [true] rfl (.p rfl<|.a kI<|.i<|.nil) (.p rfl (.i<|.i<|.nil) .nil) fnil (.cons (.v (.i<|.i<|.nil)) .nil) (ren_agg (K:=kI) _) (.turned .nil) rfl) rfl<|.guard fun h103=>?_
     obtain ⟨h1031,h1032⟩:=h103
     refine .sv (.rptr 1 kI.sz y142.toNat 0) [] rfl (idx_r (snd_index_r _ _ _ _ _ 1 0 ((y144).length) _ y142 rfl underlying104 si34 rfl rfl rfl rfl h1031 (by omega)) (Nat.zero_add _)) rfl<|.sm [(1,(rwK kI 34 ((y144).set y142.toNat (⟨⟨(((x146.1).Lo).M),((x146.1).Lo).E⟩,⟨(((x146.1).Hi).M),((x146.1).Hi).E⟩⟩:AI))))] rfl (snd_storeK_agg kI _ _ _ 1 y142.toNat _ _ (⟨⟨(((x146.1).Lo).M),((x146.1).Lo).E⟩,⟨(((x146.1).Hi).M),((x146.1).Hi).E⟩⟩:AI) rfl rfl ag34 rfl rfl rfl rfl (by first | omega | (simp only [List.length_set]; omega))) rfl<|.dn (by kernel_rfl)<|?_
     refine .weak ?_ (fun a w h=>Conc.relen h 5 ((((y144).set y142.toNat (⟨⟨(((x146.1).Lo).M),((x146.1).Lo).E⟩,⟨(((x146.1).Hi).M),((x146.1).Hi).E⟩⟩:AI))).length) rfl List.length_set.symm)
     refine .g 6 rfl<|.guard fun h104=>?_
     refine .weak ?_ (fun a w h=>Conc.gr_row kI h 5 1 34 ((y144).set y142.toNat (⟨⟨(((x146.1).Lo).M),((x146.1).Lo).E⟩,⟨(((x146.1).Hi).M),((x146.1).Hi).E⟩⟩:AI)) rfl rfl (by first | omega | (simp only [List.length_append,List.length_cons,List.length_set]; omega) | simp))
     exact .ao ((IntKind.i64.wrap (y142+1)),x146.2,((y144).set y142.toNat (⟨⟨(((x146.1).Lo).M),((x146.1).Lo).E⟩,⟨(((x146.1).Hi).M),((x146.1).Hi).E⟩⟩:AI))) rfl fun hE=>jn (m:=1) [(0,0),(1,1)] hE (.p rfl rfl<|.g rfl (ren_gr (K:=kI) (by rfl) ((y144).set y142.toNat (⟨⟨(((x146.1).Lo).M),((x146.1).Lo).E⟩,⟨(((x146.1).Hi).M),((x146.1).Hi).E⟩⟩:AI)))<|.g rfl (ren_slL (.cons (.cons (ren_fnL _ .nil .nil)<|.i<|.i<|.nil) .nil))<|.i rfl<|.i rfl<|.nil) (.v rfl (.i<|.i<|.nil)<|.cons (.refl _) (renV_gr (K:=kI) 34 ((y144).set y142.toNat (⟨⟨(((x146.1).Lo).M),((x146.1).Lo).E⟩,⟨(((x146.1).Hi).M),((x146.1).Hi).E⟩⟩:AI)))<|.nil) rfl
    ·exact .no
   ·refine .g 4 rfl<|.jo (h71 (y143,y144)) rfl fun hE=>jn (m:=1) [(0,0),(1,1)] hE (.g rfl (ren_gr (K:=kI) (by rfl) y144)<|.nil) (.v rfl (.i<|.i<|.nil)<|.cons (.refl _) (renV_gr (K:=kI) 34 y144)<|.nil) rfl
 ·intro h105
  refine .g 1 rfl<|?_
  refine .weak ?_ (fun a w h=>Conc.gr_nil kI h 5 1 34 rfl)
  refine .lo (fun n (x:Int × Int × (List AI))=>konst_parts_b550_l4 a3 a0 a1 n x.1 x.2.1 x.2.2) (fun x=>([eP 0 0,(1,some (.sl [[(.fn 54 [] []),(.int .i64 a0),(.int .i64 a1)]])),(5,some (grA kI 1 x.2.2)),(10,some (.sl [[(.fn 54 [] []),(.int .i64 a0),(.int .i64 a1)]])),eI 11 1,eI 12 x.1],[(0,(.live 45 [(.int .i64 x.2.1),(.int .i64 a3)])),(1,(grV kI 34 x.2.2))])) (0,a2,[]) rfl (fun hE=>jn (m:=1) [(0,0),(1,1)] hE (.p rfl rfl<|.g rfl (ren_slL (.cons (.cons (ren_fnL _ .nil .nil)<|.i<|.i<|.nil) .nil))<|.g rfl (ren_gr (K:=kI) (by rfl) [])<|.g rfl (ren_slL (.cons (.cons (ren_fnL _ .nil .nil)<|.i<|.i<|.nil) .nil))<|.i rfl<|.i rfl<|.nil) (.v rfl (.i<|.i<|.nil)<|.cons (.refl _) (renV_gr (K:=kI) 34 [])<|.nil) rfl) ?_
  rintro n4 ⟨y166,y167,y168⟩
  try dsimp only
  rw [konst_parts_b550_l4]
  refine .g 6 rfl<|?_
  refine .cd rfl (fun _ _=>?_) fun _ _=>?_
  ·refine .g 6 rfl<|?_
   refine .ite (fun h138=>?_) (fun h138=>?_)
   ·refine .sv (.iptr [(.fn 54 [] []),(.int .i64 a0),(.int .i64 a1)]) [] rfl (snd_index_at 0 _ _ _ _ _ _ _ _ rfl underlying154 si126 rfl rfl rfl rfl (by intro e he; simp at he; rcases he with rfl<;>rfl) rfl h138 rfl) rfl<|.g 12 rfl<|.bind fun x173 h139=>.st rfl (cl (CC.h h139) [0] [] [true] rfl (.p rfl<|.i<|.nil) (.p rfl (.i<|.i<|.nil) .nil) fnil (.cons (.v (.i<|.i<|.nil)) .nil) (ren_agg (K:=kI) _) (.turned .nil) rfl) rfl<|.g 3 rfl<|.bind fun x174 h140=>.st rfl (cl (CC.h h140) [0] [] [true] rfl (.p rfl<|.i<|.nil) (.p rfl (.i<|.i<|.nil) .nil) fnil (.cons (.v (.i<|.i<|.nil)) .nil) (ren_agg (K:=kI) _) (.turned .nil) rfl) rfl<|.bind fun x175 h141=>.st rfl (cl (CC.h h141) [0] [] [true] rfl (.p rfl<|.a kI<|.a kI<|.nil) (.p rfl (.i<|.i<|.nil) .nil) fnil (.cons (.v (.i<|.i<|.nil)) .nil) (ren_agg (K:=kI) _) (.turned .nil) rfl) rfl<|.bind fun x176 h142=>.st rfl (cl (CC.h h142) [0] [] [true] rfl (.p rfl<|.a kI<|.nil) (.p rfl (.i<|.i<|.nil) .nil) fnil (.cons (.v (.i<|.i<|.nil)) .nil) (ren_agg (K:=kI) _) (.turned .nil) rfl) rfl<|.st rfl (bs kI [(⟨⟨(((x176.1).Lo).M),((x176.1).Lo).E⟩,⟨(((x176.1).Hi).M),((x176.1).Hi).E⟩⟩:AI)] rfl rfl) rfl<|.guard fun h143=>.sv (.row 3 kI.sz 0 (((y168++[(⟨⟨(((x176.1).Lo).M),((x176.1).Lo).E⟩,⟨(((x176.1).Hi).M),((x176.1).Hi).E⟩⟩:AI)])).length)) [(3,(rwK kI 34 (y168++[(⟨⟨(((x176.1).Lo).M),((x176.1).Lo).E⟩,⟨(((x176.1).Hi).M),((x176.1).Hi).E⟩⟩:AI)]))),(1,.dead)] rfl (snd_appendK_gr kI _ _ _ _ _ 1 3 y168 [(⟨⟨(((x176.1).Lo).M),((x176.1).Lo).E⟩,⟨(((x176.1).Hi).M),((x176.1).Hi).E⟩⟩:AI)] rfl underlying104 ze34 sb34 rfl rfl rfl rfl rfl rfl rfl h143) rfl<|?_
    refine .g 1 rfl<|.dn (by kernel_rfl)<|.g 6 rfl<|?_
    refine .weak ?_ (fun a w h=>Conc.gr_row kI h 5 3 34 (y168++[(⟨⟨(((x176.1).Lo).M),((x176.1).Lo).E⟩,⟨(((x176.1).Hi).M),((x176.1).Hi).E⟩⟩:AI)]) rfl rfl (by first | omega | (simp only [List.length_append,List.length_cons,List.length_set]; omega) | simp))
    exact .ao ((IntKind.i64.wrap (y166+1)),x176.2,(y168++[(⟨⟨(((x176.1).Lo).M),((x176.1).Lo).E⟩,⟨(((x176.1).Hi).M),((x176.1).Hi).E⟩⟩:AI)])) rfl fun hE=>jn (m:=1) [(0,0),(3,1)] hE (.p rfl rfl<|.g rfl (ren_slL (.cons (.cons (ren_fnL _ .nil .nil)<|.i<|.i<|.nil) .nil))<|.g rfl (ren_gr (K:=kI) (by rfl) (y168++[(⟨⟨(((x176.1).Lo).M),((x176.1).Lo).E⟩,⟨(((x176.1).Hi).M),((x176.1).Hi).E⟩⟩:AI)]))<|.g rfl (ren_slL (.cons (.cons (ren_fnL _ .nil .nil)<|.i<|.i<|.nil) .nil))<|.i rfl<|.i rfl<|.nil) (.v rfl (.i<|.i<|.nil)<|.cons (.refl _) (renV_gr (K:=kI) 34 (y168++[(⟨⟨(((x176.1).Lo).M),((x176.1).Lo).E⟩,⟨(((x176.1).Hi).M),((x176.1).Hi).E⟩⟩:AI)]))<|.nil) rfl
   ·exact .no
  ·refine .g 4 rfl<|.jo (h105 (y167,y168)) rfl fun hE=>jn (m:=1) [(0,0),(1,1)] hE (.p rfl rfl<|.g rfl (ren_slL (.cons (.cons (ren_fnL _ .nil .nil)<|.i<|.i<|.nil) .nil))<|.g rfl (ren_gr (K:=kI) (by rfl) y168)<|.nil) (.v rfl (.i<|.i<|.nil)<|.cons (.refl _) (renV_gr (K:=kI) 34 y168)<|.nil) rfl
instance konst_Ln2_i (a0:Int) (a1:Int):CC (konst_Ln2 a0 a1) Tryz.prog 63 [(.ptr 0 0)] [(.live 45 [(.int .i64 a0),(.int .i64 a1)])] (fun r=>(.agg (kI.enc (⟨⟨(((r.1).Lo).M),((r.1).Lo).E⟩,⟨(((r.1).Hi).M),((r.1).Hi).E⟩⟩:AI)))) (fun r=>[(.live 45 [(.int .i64 r.2),(.int .i64 a1)])]):=cc func63 (by kernel_rfl) rfl fun E=>by
 unfold konst_Ln2
 refine .g 9 rfl<|.sv (.sl [[(.fn 54 [] []),(.int .i64 3),(.int .i64 1)]]) [] rfl (snd_buildSlice _ _ _ 3 _ _ [(0,(.agg [(.fn 54 [] []),(.int .i64 3),(.int .i64 1)]))] [[(.fn 54 [] []),(.int .i64 3),(.int .i64 1)]] rfl underlying154 ze126 si126 rfl rfl rfl (by decide) (by decide) (by decide) rfl rfl (by intro e he; simp at he; rcases he with rfl<;>rfl) rfl) rfl<|.bind fun x2 h1=>.st rfl (cl (CC.h h1) [0] [] [true] rfl (.p rfl<|.cons (ren_slL (.cons (.cons (ren_fnL _ .nil .nil)<|.i<|.i<|.nil) .nil))<|.nil) (.p rfl (.i<|.i<|.nil) .nil) fnil (.cons (.v (.i<|.i<|.nil)) .nil) (ren_sl _) (.turned .nil) rfl) rfl<|.ix rfl rfl<|.g 5 rfl<|.fi rfl rfl
instance l08_KonstRoot_i (a0:Int):PC (l08_KonstRoot a0) Tryz.prog 13 [(.int .i64 a0)] (fun r=>(.bool r)):=pc func13 (by kernel_rfl) rfl fun E=>by
 unfold l08_KonstRoot
 refine .g 7 rfl<|.p0 rfl rfl fun x24 _=>.g 10 rfl<|?_
 refine .cd rfl (fun _ _=>?_) fun _ _=>?_
 ·refine .g 7 rfl<|.fi rfl rfl
 ·refine .g 9 rfl<|?_
  refine .cut (fun x:Int=>(l08_KonstRoot_j1 x24 x,[eI 0 x,eB 3 x24],[])) ?_ ?_
  ·rintro y25
   dsimp only [l08_KonstRoot_j1]
   refine .g 12 rfl<|.bind fun x26 h6=>?_
   rcases x26 with x27 | x28
   ·dsimp only
    refine .st rfl (cl (iv_New_k_0 h6) [] [0] [true] rfl (.i<|.nil) .nil (fresh_cons rfl fnil) (.cons .dead .nil) (ren_tupL (.cons .nilptr<|.i<|.nil)) (.turned .nil) rfl) rfl<|.g 26 rfl<|.fi rfl rfl
   ·dsimp only
    refine .st rfl (cl (iv_New_k_1 h6) [] [0] [true] rfl (.i<|.nil) .nil (fresh_cons rfl fnil) (.cons (.v (.i<|.i<|.nil)) .nil) (ren_tupL (.p rfl<|.i<|.nil)) (.turned .nil) rfl) rfl<|.g 18 rfl<|?_
    refine .cd rfl (fun _ _=>?_) fun _ _=>?_
    ·refine .g 7 rfl<|.fi rfl rfl
    ·refine .g 5 rfl<|.bind fun x29 h9=>.st rfl (cl (CC.h h9) [0] [] [true] rfl (.p rfl<|.nil) (.p rfl (.i<|.i<|.nil) .nil) fnil (.cons (.v (.i<|.i<|.nil)) .nil) (ren_agg (K:=kI) _) (.turned .nil) rfl) rfl<|.g 7 rfl<|.bind fun x30 h10=>.st rfl (cl (CC.h h10) [0] [] [true] rfl (.p rfl<|.nil) (.p rfl (.i<|.i<|.nil) .nil) fnil (.cons (.v (.i<|.i<|.nil)) .nil) (ren_agg (K:=kI) _) (.turned .nil) rfl) rfl<|.g 10 rfl<|.bind fun x31 h11=>.st rfl (cl (CC.h h11) [0] [] [true] rfl (.p rfl<|.a kI<|.a kI<|.nil) (.p rfl (.i<|.i<|.nil) .nil) fnil (.cons (.v (.i<|.i<|.nil)) .nil) (ren_agg (K:=kI) _) (.turned .nil) rfl) rfl<|.g 1 rfl<|.bind fun x32 h12=>.st rfl (cl (CC.h h12) [0] [] [true] rfl (.p rfl<|.a kI<|.a kI<|.nil) (.p rfl (.i<|.i<|.nil) .nil) fnil (.cons (.v (.i<|.i<|.nil)) .nil) (ren_agg (K:=kI) _) (.turned .nil) rfl) rfl<|.dn (by kernel_rfl)<|.g 7 rfl<|?_
     refine .p0 rfl rfl fun x33 _=>.g 11 rfl<|.bind fun x34 h14=>.st rfl (cl (CC.h h14) [0] [] [true] rfl (.p rfl<|.nil) (.p rfl (.i<|.i<|.nil) .nil) fnil (.cons (.v (.i<|.i<|.nil)) .nil) (ren_agg (K:=kI) _) (.turned .nil) rfl) rfl<|.g 10 rfl<|.p0 rfl rfl fun x35 _=>.g 9 rfl<|?_
     refine .cut (fun x:Bool=>(l08_KonstRoot_j2 x,[eB 2 x],[])) ?_ ?_
     ·rintro y41
      dsimp only [l08_KonstRoot_j2]
      refine .g 2 rfl<|.fi rfl rfl
     ·intro h26
      refine .g 3 rfl<|?_
      refine .gd 65 rfl (fun _=>?_) fun _=>?_
      ·refine .g 3 rfl<|.bind fun x42 h28=>.st rfl (cl (CC.h h28) [0] [] [false] rfl (.p rfl<|.nil) (.p rfl (.i<|.i<|.nil) .nil) fnil (.cons (.v (.i<|.i<|.nil)) .nil) (.int _ _) (.kept rfl .nil) rfl) rfl<|.g 3 rfl<|?_
       refine .gd 72 rfl (fun _=>?_) fun _=>?_
       ·refine .g 4 rfl<|?_
        refine .gd 76 rfl (fun _=>?_) fun _=>?_
        ·refine .g 4 rfl<|?_
         refine .gd 80 rfl (fun _=>?_) fun _=>?_
         ·refine .g 3 rfl<|.p0 rfl rfl fun x43 _=>.p0 rfl rfl fun x44 _=>.g 3 rfl<|?_
          refine .gd 88 rfl (fun _=>?_) fun _=>?_
          ·refine .g 3 rfl<|.p0 rfl rfl fun x45 _=>.p0 rfl rfl fun x46 _=>.g 3 rfl<|.dn (by kernel_rfl)<|.jw (h26 (decide (x46≤0))) [] rfl
          ·refine .g 8 rfl<|.dn (by kernel_rfl)<|.jw (h26 false) [] rfl
         ·refine .g 16 rfl<|.dn (by kernel_rfl)<|.jw (h26 false) [] rfl
        ·refine .g 20 rfl<|.dn (by kernel_rfl)<|.jw (h26 false) [] rfl
       ·refine .g 24 rfl<|.dn (by kernel_rfl)<|.jw (h26 false) [] rfl
      ·refine .g 31 rfl<|.dn (by kernel_rfl)<|.jw (h26 false) [] rfl
  ·intro h37
   refine .cd rfl (fun _ _=>?_) fun _ _=>?_
   ·refine .g 6 rfl<|.jw (h37 (IntKind.i64.wrap (0-(IntKind.i64.wrap (a0+1))))) [] rfl
   ·refine .g 1 rfl<|.jw (h37 a0) [] rfl
end Go.Proofs.YtpmpcohbpankaaaGreat.Gen
