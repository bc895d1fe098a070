/- Printed by geng.py: a call does what the plain function says. -/
import Derived.Test.YtjfcghliglfapaaGreatExpoNarrowGenP2
set_option linter.unusedVariables false
set_option linter.unusedSimpArgs false
set_option maxRecDepth 4000
namespace Go.Proofs.YtjfcghliglfapaaGreat.Gen
open Go Go.Abs Go.Proofs Go.Proofs.Tryz
instance konst_parts_b550_i (a0:Int) (a1:Int) (a2:Int) (a3:Int):CC (konst_parts_b550 a0 a1 a2 a3) Tryz.prog 123 [(.ptr 0 0),(.sl [[(.fn 77 [] []),(.int .i64 a0),(.int .i64 a1)]])] [(.live 52 [(.int .i64 a2),(.int .i64 a3)])] (fun r=>(slK kI r.1)) (fun r=>[(.live 52 [(.int .i64 r.2),(.int .i64 a3)])]):=cc func123 (by kernel_rfl) rfl fun E=>by
 unfold konst_parts_b550
 refine .g 14 rfl<|.sv (.int .i64 1) [] rfl (snd_len _ _ _ _ _ rfl underlying169 rfl rfl rfl rfl) rfl<|.g 3 rfl<|?_
 refine .cut (fun x:Int × (List AI)=>(konst_parts_b550_j1 a1 a3 x.1 x.2,[eP 0 0,(1,some (.sl [[(.fn 77 [] []),(.int .i64 a0),(.int .i64 a1)]])),(5,some (grA kI 1 x.2))],[(0,(.live 52 [(.int .i64 x.1),(.int .i64 a3)])),(1,(grV kI 30 x.2))])) ?_ ?_
 ·rintro ⟨y119,y120⟩
  dsimp only [konst_parts_b550_j1]
  refine .g 5 rfl<|.sv (.int .i64 1) [] rfl (snd_len _ _ _ _ _ rfl underlying169 rfl rfl rfl rfl) rfl<|.g 3 rfl<|?_
  refine .cut (fun x:Int × (List AI)=>(konst_parts_b550_j2 x.1 x.2,[(5,some (grA kI 1 x.2))],[(0,(.live 52 [(.int .i64 x.1),(.int .i64 a3)])),(1,(grV kI 30 x.2))])) ?_ ?_
  ·rintro ⟨y133,y134⟩
   dsimp only [konst_parts_b550_j2]
   refine .g 8 rfl<|?_
   refine .weak ?_ (fun a w h=>Conc.gr_still kI h 4 1 30 y134 rfl rfl)
   exact .fi rfl rfl
  ·intro h71
   refine .g 1 rfl<|?_
   refine .lo (fun n (x:Int × Int × (List AI))=>konst_parts_b550_l3 a1 a3 n x.1 x.2.1 x.2.2) (fun x=>([eP 0 0,(5,some (grA kI 1 x.2.2)),(32,some (.sl [[(.fn 77 [] []),(.int .i64 a0),(.int .i64 a1)]])),eI 33 1,eI 34 x.1],[(0,(.live 52 [(.int .i64 x.2.1),(.int .i64 a3)])),(1,(grV kI 30 x.2.2))])) (0,y119,y120) rfl (fun hE=>jn (m:=1) [(0,0),(1,1)] hE (.p rfl rfl<|.g rfl (ren_gr (K:=kI) (by rfl) y120)<|.g rfl (ren_slL (.cons (.cons (ren_fnL _ .nil .nil)<|.i<|.i<|.nil) .nil))<|.i rfl<|.i rfl<|.nil) (.v rfl (.i<|.i<|.nil)<|.cons (.refl _) (renV_gr (K:=kI) 30 y120)<|.nil) rfl) ?_
   rintro n3 ⟨y142,y143,y144⟩
   try dsimp only
   rw [konst_parts_b550_l3]
   refine .g 6 rfl<|?_
   refine .cd rfl (fun _ _=>?_) fun _ _=>?_
   ·refine .g 7 rfl<|?_
    refine .ite (fun h99=>?_) (fun h99=>?_)
    ·refine .sv (.iptr [(.fn 77 [] []),(.int .i64 a0),(.int .i64 a1)]) [] rfl (snd_index_at 0 _ _ _ _ _ _ _ _ rfl underlying169 si125 rfl rfl rfl rfl (by intro e he; simp at he; rcases he with rfl<;>rfl) rfl h99 rfl) rfl<|.g 6 rfl<|.guard fun h100=>?_
     refine .weak ?_ (fun a w h=>Conc.gr_open1 kI h 5 1 y144 (by omega) rfl)
     refine .weak ?_ (fun a w h=>Conc.gr_openV kI h 1 30 y144 (by omega) rfl)
     refine .g 6 rfl<|.guard fun h101=>?_
     obtain ⟨h1011,h1012⟩:=h101
     refine .sv (.rptr 1 kI.sz y142.toNat 0) [] rfl (idx_r (snd_index_r _ _ _ _ _ 1 0 ((y144).length) _ y142 rfl underlying122 si30 rfl rfl rfl rfl h1011 (by omega)) (Nat.zero_add _)) rfl<|.sv (.agg (kI.enc (⟨⟨((((y144).getD y142.toNat zAI).Lo).M),(((y144).getD y142.toNat zAI).Lo).E⟩,⟨((((y144).getD y142.toNat zAI).Hi).M),(((y144).getD y142.toNat zAI).Hi).E⟩⟩:AI))) [] rfl (snd_loadK_agg kI _ _ 1 y142.toNat 0 6 _ _ rfl ag30 rfl rfl rfl rfl (by first | omega | (simp only [List.length_set]; omega)) (by decide)) rfl<|.g 2 rfl<|.bind fun x146 h102=>.st rfl (cl (CC.h h102) [0] [] [true] rfl (.p rfl<|.a kI<|.i<|.nil) (.p rfl (.i<|.i<|.nil) .nil) fnil (.cons (.v (.i<|.i<|.nil)) .nil) (ren_agg (K:=kI) _) (.turned .nil) rfl) rfl<|.guard fun h103=>?_
     obtain ⟨h1031,h1032⟩:=h103
     refine .sv (.rptr 1 kI.sz y142.toNat 0) [] rfl (idx_r (snd_index_r _ _ _ _ _ 1 0 ((y144).length) _ y142 rfl underlying122 si30 rfl rfl rfl rfl h1031 (by omega)) (Nat.zero_add _)) rfl<|.sm [(1,(rwK kI 30 ((y144).set y142.toNat (⟨⟨(((x146.1).Lo).M),((x146.1).Lo).E⟩,⟨(((x146.1).Hi).M),((x146.1).Hi).E⟩⟩:AI))))] rfl (snd_storeK_agg kI _ _ _ 1 y142.toNat _ _ (⟨⟨(((x146.1).Lo).M),((x146.1).Lo).E⟩,⟨(((x146.1).Hi).M),((x146.1).Hi).E⟩⟩:AI) rfl rfl ag30 rfl rfl rfl rfl (by first | omega | (simp only [List.length_set]; omega))) rfl<|.dn (by kernel_rfl)<|?_
     refine .weak ?_ (fun a w h=>Conc.relen h 5 ((((y144).set y142.toNat (⟨⟨(((x146.1).Lo).M),((x146.1).Lo).E⟩,⟨(((x146.1).Hi).M),((x146.1).Hi).E⟩⟩:AI))).length) rfl List.length_set.symm)
     refine .g 6 rfl<|.guard fun h104=>?_
     refine .weak ?_ (fun a w h=>Conc.gr_row kI h 5 1 30 ((y144).set y142.toNat (⟨⟨(((x146.1).Lo).M),((x146.1).Lo).E⟩,⟨(((x146.1).Hi).M),((x146.1).Hi).E⟩⟩:AI)) rfl rfl (by first | omega | (simp only [List.length_append,List.length_cons,List.length_set]; omega) | simp))
     exact .ao ((IntKind.i64.wrap (y142+1)),x146.2,((y144).set y142.toNat (⟨⟨(((x146.1).Lo).M),((x146.1).Lo).E⟩,⟨(((x146.1).Hi).M),((x146.1).Hi).E⟩⟩:AI))) rfl fun hE=>jn (m:=1) [(0,0),(1,1)] hE (.p rfl rfl<|.g rfl (ren_gr (K:=kI) (by rfl) ((y144).set y142.toNat (⟨⟨(((x146.1).Lo).M),((x146.1).Lo).E⟩,⟨(((x146.1).Hi).M),((x146.1).Hi).E⟩⟩:AI)))<|.g rfl (ren_slL (.cons (.cons (ren_fnL _ .nil .nil)<|.i<|.i<|.nil) .nil))<|.i rfl<|.i rfl<|.nil) (.v rfl (.i<|.i<|.nil)<|.cons (.refl _) (renV_gr (K:=kI) 30 ((y144).set y142.toNat (⟨⟨(((x146.1).Lo).M),((x146.1).Lo).E⟩,⟨(((x146.1).Hi).M),((x146.1).Hi).E⟩⟩:AI)))<|.nil) rfl
    ·exact .no
   ·refine .g 4 rfl<|.jo (h71 (y143,y144)) rfl fun hE=>jn (m:=1) [(0,0),(1,1)] hE (.g rfl (ren_gr (K:=kI) (by rfl) y144)<|.nil) (.v rfl (.i<|.i<|.nil)<|.cons (.refl _) (renV_gr (K:=kI) 30 y144)<|.nil) rfl
 ·intro h105
  refine .g 1 rfl<|?_
  refine .weak ?_ (fun a w h=>Conc.gr_nil kI h 5 1 30 rfl)
  refine .lo (fun n (x:Int × Int × (List AI))=>konst_parts_b550_l4 a3 a0 a1 n x.1 x.2.1 x.2.2) (fun x=>([eP 0 0,(1,some (.sl [[(.fn 77 [] []),(.int .i64 a0),(.int .i64 a1)]])),(5,some (grA kI 1 x.2.2)),(10,some (.sl [[(.fn 77 [] []),(.int .i64 a0),(.int .i64 a1)]])),eI 11 1,eI 12 x.1],[(0,(.live 52 [(.int .i64 x.2.1),(.int .i64 a3)])),(1,(grV kI 30 x.2.2))])) (0,a2,[]) rfl (fun hE=>jn (m:=1) [(0,0),(1,1)] hE (.p rfl rfl<|.g rfl (ren_slL (.cons (.cons (ren_fnL _ .nil .nil)<|.i<|.i<|.nil) .nil))<|.g rfl (ren_gr (K:=kI) (by rfl) [])<|.g rfl (ren_slL (.cons (.cons (ren_fnL _ .nil .nil)<|.i<|.i<|.nil) .nil))<|.i rfl<|.i rfl<|.nil) (.v rfl (.i<|.i<|.nil)<|.cons (.refl _) (renV_gr (K:=kI) 30 [])<|.nil) rfl) ?_
  rintro n4 ⟨y166,y167,y168⟩
  try dsimp only
  rw [konst_parts_b550_l4]
  refine .g 6 rfl<|?_
  refine .cd rfl (fun _ _=>?_) fun _ _=>?_
  ·refine .g 6 rfl<|?_
   refine .ite (fun h138=>?_) (fun h138=>?_)
   ·refine .sv (.iptr [(.fn 77 [] []),(.int .i64 a0),(.int .i64 a1)]) [] rfl (snd_index_at 0 _ _ _ _ _ _ _ _ rfl underlying169 si125 rfl rfl rfl rfl (by intro e he; simp at he; rcases he with rfl<;>rfl) rfl h138 rfl) rfl<|.g 12 rfl<|.bind fun x173 h139=>.st rfl (cl (CC.h h139) [0] [] [true] rfl (.p rfl<|.i<|.nil) (.p rfl (.i<|.i<|.nil) .nil) fnil (.cons (.v (.i<|.i<|.nil)) .nil) (ren_agg (K:=kI) _) (.turned .nil) rfl) rfl<|.g 3 rfl<|.bind fun x174 h140=>.st rfl (cl (CC.h h140) [0] [] [true] rfl (.p rfl<|.i<|.nil) (.p rfl (.i<|.i<|.nil) .nil) fnil (.cons (.v (.i<|.i<|.nil)) .nil) (ren_agg (K:=kI) _) (.turned .nil) rfl) rfl<|.bind fun x175 h141=>.st rfl (cl (CC.h h141) [0] [] [true] rfl (.p rfl<|.a kI<|.a kI<|.nil) (.p rfl (.i<|.i<|.nil) .nil) fnil (.cons (.v (.i<|.i<|.nil)) .nil) (ren_agg (K:=kI) _) (.turned .nil) rfl) rfl<|.bind fun x176 h142=>.st rfl (cl (CC.h h142) [0] [] [true] rfl (.p rfl<|.a kI<|.nil) (.p rfl (.i<|.i<|.nil) .nil) fnil (.cons (.v (.i<|.i<|.nil)) .nil) (ren_agg (K:=kI) _) (.turned .nil) rfl) rfl<|.st rfl (bs kI [(⟨⟨(((x176.1).Lo).M),((x176.1).Lo).E⟩,⟨(((x176.1).Hi).M),((x176.1).Hi).E⟩⟩:AI)] rfl rfl) rfl<|.guard fun h143=>.sv (.row 3 kI.sz 0 (((y168++[(⟨⟨(((x176.1).Lo).M),((x176.1).Lo).E⟩,⟨(((x176.1).Hi).M),((x176.1).Hi).E⟩⟩:AI)])).length)) [(3,(rwK kI 30 (y168++[(⟨⟨(((x176.1).Lo).M),((x176.1).Lo).E⟩,⟨(((x176.1).Hi).M),((x176.1).Hi).E⟩⟩:AI)]))),(1,.dead)] rfl (snd_appendK_gr kI _ _ _ _ _ 1 3 y168 [(⟨⟨(((x176.1).Lo).M),((x176.1).Lo).E⟩,⟨(((x176.1).Hi).M),((x176.1).Hi).E⟩⟩:AI)] rfl underlying122 ze30 sb30 rfl rfl rfl rfl rfl rfl rfl h143) rfl<|?_
    refine .g 1 rfl<|.dn (by kernel_rfl)<|.g 6 rfl<|?_
    refine .weak ?_ (fun a w h=>Conc.gr_row kI h 5 3 30 (y168++[(⟨⟨(((x176.1).Lo).M),((x176.1).Lo).E⟩,⟨(((x176.1).Hi).M),((x176.1).Hi).E⟩⟩:AI)]) rfl rfl (by first | omega | (simp only [List.length_append,List.length_cons,List.length_set]; omega) | simp))
    exact .ao ((IntKind.i64.wrap (y166+1)),x176.2,(y168++[(⟨⟨(((x176.1).Lo).M),((x176.1).Lo).E⟩,⟨(((x176.1).Hi).M),((x176.1).Hi).E⟩⟩:AI)])) rfl fun hE=>jn (m:=1) [(0,0),(3,1)] hE (.p rfl rfl<|.g rfl (ren_slL (.cons (.cons (ren_fnL _ .nil .nil)<|.i<|.i<|.nil) .nil))<|.g rfl (ren_gr (K:=kI) (by rfl) (y168++[(⟨⟨(((x176.1).Lo).M),((x176.1).Lo).E⟩,⟨(((x176.1).Hi).M),((x176.1).Hi).E⟩⟩:AI)]))<|.g rfl (ren_slL (.cons (.cons (ren_fnL _ .nil .nil)<|.i<|.i<|.nil) .nil))<|.i rfl<|.i rfl<|.nil) (.v rfl (.i<|.i<|.nil)<|.cons (.refl _) (renV_gr (K:=kI) 30 (y168++[(⟨⟨(((x176.1).Lo).M),((x176.1).Lo).E⟩,⟨(((x176.1).Hi).M),((x176.1).Hi).E⟩⟩:AI)]))<|.nil) rfl
   ·exact .no
  ·refine .g 4 rfl<|.jo (h105 (y167,y168)) rfl fun hE=>jn (m:=1) [(0,0),(1,1)] hE (.p rfl rfl<|.g rfl (ren_slL (.cons (.cons (ren_fnL _ .nil .nil)<|.i<|.i<|.nil) .nil))<|.g rfl (ren_gr (K:=kI) (by rfl) y168)<|.nil) (.v rfl (.i<|.i<|.nil)<|.cons (.refl _) (renV_gr (K:=kI) 30 y168)<|.nil) rfl
instance konst_Ln2_i (a0:Int) (a1:Int):CC (konst_Ln2 a0 a1) Tryz.prog 78 [(.ptr 0 0)] [(.live 52 [(.int .i64 a0),(.int .i64 a1)])] (fun r=>(.agg (kI.enc (⟨⟨(((r.1).Lo).M),((r.1).Lo).E⟩,⟨(((r.1).Hi).M),((r.1).Hi).E⟩⟩:AI)))) (fun r=>[(.live 52 [(.int .i64 r.2),(.int .i64 a1)])]):=cc func78 (by kernel_rfl) rfl fun E=>by
 unfold konst_Ln2
 refine .g 9 rfl<|.sv (.sl [[(.fn 77 [] []),(.int .i64 3),(.int .i64 1)]]) [] rfl (snd_buildSlice _ _ _ 3 _ _ [(0,(.agg [(.fn 77 [] []),(.int .i64 3),(.int .i64 1)]))] [[(.fn 77 [] []),(.int .i64 3),(.int .i64 1)]] rfl underlying169 ze125 si125 rfl rfl rfl (by decide) (by decide) (by decide) rfl rfl (by intro e he; simp at he; rcases he with rfl<;>rfl) rfl) rfl<|.bind fun x2 h1=>.st rfl (cl (CC.h h1) [0] [] [true] rfl (.p rfl<|.cons (ren_slL (.cons (.cons (ren_fnL _ .nil .nil)<|.i<|.i<|.nil) .nil))<|.nil) (.p rfl (.i<|.i<|.nil) .nil) fnil (.cons (.v (.i<|.i<|.nil)) .nil) (ren_sl _) (.turned .nil) rfl) rfl<|.ix rfl rfl<|.g 5 rfl<|.fi rfl rfl
instance cv_Out_i (a0:AI) (a1:Int) (a2:Int):CC (cv_Out a0 a1 a2) Tryz.prog 133 [(.ptr 0 0),(.agg (kI.enc a0))] [(.live 52 [(.int .i64 a1),(.int .i64 a2)])] (fun r=>(.agg (kI.enc (⟨⟨(((r.1).Lo).M),((r.1).Lo).E⟩,⟨(((r.1).Hi).M),((r.1).Hi).E⟩⟩:AI)))) (fun r=>[(.live 52 [(.int .i64 r.2),(.int .i64 a2)])]):=cc func133 (by kernel_rfl) rfl fun E=>by
 unfold cv_Out
 refine .g 11 rfl<|.st rfl (bs kI [a0] rfl rfl) rfl<|.bind fun x5 h1=>.st rfl (cl (CC.h h1) [0] [] [true] rfl (.p rfl<|.l<|.nil) (.p rfl (.i<|.i<|.nil) .nil) fnil (.cons (.v (.i<|.i<|.nil)) .nil) (.bool _) (.turned .nil) rfl) rfl<|.g 3 rfl<|?_
 refine .cd rfl (fun _ _=>?_) fun _ _=>?_
 ·refine .g 8 rfl<|.fi rfl rfl
 ·refine .g 7 rfl<|.bind fun x6 h4=>.st rfl (cl (CC.h h4) [0] [] [true] rfl (.p rfl<|.a kD<|.nil) (.p rfl (.i<|.i<|.nil) .nil) fnil (.cons (.v (.i<|.i<|.nil)) .nil) (ren_agg (K:=kD) _) (.turned .nil) rfl) rfl<|.g 11 rfl<|.bind fun x7 h5=>.st rfl (cl (CC.h h5) [0] [] [true] rfl (.p rfl<|.a kD<|.nil) (.p rfl (.i<|.i<|.nil) .nil) fnil (.cons (.v (.i<|.i<|.nil)) .nil) (ren_agg (K:=kD) _) (.turned .nil) rfl) rfl<|.bind fun x8 h6=>.st rfl (cl (CC.h h6) [0] [] [false] rfl (.p rfl<|.a kD<|.a kD<|.nil) (.p rfl (.i<|.i<|.nil) .nil) fnil (.cons (.v (.i<|.i<|.nil)) .nil) (ren_agg (K:=kI) _) (.kept rfl .nil) rfl) rfl<|.g 1 rfl<|.dn (by kernel_rfl)<|.g 2 rfl<|.fi rfl rfl
instance expo_done_i (a0:AI) (a1:Int) (a2:Int) (a3:Int):CC (expo_done a0 a1 a2 a3) Tryz.prog 66 [(.ptr 0 0),(.agg (kI.enc a0)),(.int .i64 a1)] [(.live 52 [(.int .i64 a2),(.int .i64 a3)])] (fun r=>(.tup [(.agg (kI.enc (⟨⟨(((r.1).Lo).M),((r.1).Lo).E⟩,⟨(((r.1).Hi).M),((r.1).Hi).E⟩⟩:AI))),(.int .i64 r.2)])) (fun r=>[(.live 52 [(.int .i64 a2),(.int .i64 a3)])]):=cc func66 (by kernel_rfl) rfl fun E=>by
 unfold expo_done
 refine .g 13 rfl<|.bind fun x7 h1=>.st rfl (cl (CC.h h1) [0] [] [false] rfl (.p rfl<|.nil) (.p rfl (.i<|.i<|.nil) .nil) fnil (.cons (.v (.i<|.i<|.nil)) .nil) (.int _ _) (.kept rfl .nil) rfl) rfl<|.g 9 rfl<|?_
 refine .cd rfl (fun _ _=>?_) fun _ _=>?_
 ·refine .g 10 rfl<|.fi rfl rfl
 ·refine .g 5 rfl<|.bind fun x8 h4=>?_
  rcases x8 with x9 | x10
  ·dsimp only
   refine .st rfl (cl (iv_New_k_0 h4) [] [3] [true] rfl (.i<|.nil) .nil (fresh_cons rfl fnil) (.cons .dead .nil) (ren_tupL (.cons .nilptr<|.i<|.nil)) (.turned .nil) rfl) rfl<|.g 11 rfl<|.no
  ·dsimp only
   refine .st rfl (cl (iv_New_k_1 h4) [] [3] [true] rfl (.i<|.nil) .nil (fresh_cons rfl fnil) (.cons (.v (.i<|.i<|.nil)) .nil) (ren_tupL (.p rfl<|.i<|.nil)) (.turned .nil) rfl) rfl<|.g 11 rfl<|.bind fun x11 h5=>.st rfl (cl (CC.h h5) [3] [] [true] rfl (.p rfl<|.a kI<|.nil) (.p rfl (.i<|.i<|.nil) .nil) fnil (.cons (.v (.i<|.i<|.nil)) .nil) (ren_agg (K:=kI) _) (.turned .nil) rfl) rfl<|.g 10 rfl<|.bind fun x12 h6=>.st rfl (cl (CC.h h6) [3] [] [false] rfl (.p rfl<|.nil) (.p rfl (.i<|.i<|.nil) .nil) fnil (.cons (.v (.i<|.i<|.nil)) .nil) (.int _ _) (.kept rfl .nil) rfl) rfl<|.g 2 rfl<|.dn (by kernel_rfl)<|.g 2 rfl<|.fi rfl rfl
instance expo_Ln_i (a0:AD) (a1:Int):PC (expo_Ln a0 a1) Tryz.prog 20 [(.agg (kD.enc a0)),(.int .i64 a1)] (fun r=>(.tup [(.agg (kI.enc (⟨⟨(((r.1).Lo).M),((r.1).Lo).E⟩,⟨(((r.1).Hi).M),((r.1).Hi).E⟩⟩:AI))),(.int .i64 r.2)])):=pc func20 (by kernel_rfl) rfl fun E=>by
 unfold expo_Ln
 refine .g 12 rfl<|.st rfl (bs kD [a0] rfl rfl) rfl<|.p0 rfl rfl fun x36 _=>.g 3 rfl<|?_
 refine .cd rfl (fun _ _=>?_) fun _ _=>?_
 ·refine .g 9 rfl<|.fi rfl rfl
 ·refine .g 5 rfl<|.p0 rfl rfl fun x37 _=>.g 9 rfl<|?_
  refine .cut (fun x:Bool=>(expo_Ln_j1 a1 a0 x37 x,[eI 1 a1,eP 2 0,eP 4 1,eI 6 x37.1,eB 33 x],[(0,(.live 26 [(.bool a0.M.Neg),(slK (kInt .u32) a0.M.Mag),(.int .i64 a0.E)])),(1,(.live 30 [(.bool false),(slK (kInt .u32) []),(.int .i64 0),(.bool false),(slK (kInt .u32) []),(.int .i64 0)]))])) ?_ ?_
  ·rintro y38
   dsimp only [expo_Ln_j1]
   refine .g 1 rfl<|?_
   refine .cd rfl (fun _ _=>?_) fun _ _=>?_
   ·refine .g 9 rfl<|.fi rfl rfl
   ·refine .g 6 rfl<|.bind fun x39 h8=>?_
    rcases x39 with x40 | x41
    ·dsimp only
     refine .st rfl (cl (iv_New_k_0 h8) [] [2] [true] rfl (.i<|.nil) .nil (fresh_cons rfl fnil) (.cons .dead .nil) (ren_tupL (.cons .nilptr<|.i<|.nil)) (.turned .nil) rfl) rfl<|.g 19 rfl<|.no
    ·dsimp only
     refine .st rfl (cl (iv_New_k_1 h8) [] [2] [true] rfl (.i<|.nil) .nil (fresh_cons rfl fnil) (.cons (.v (.i<|.i<|.nil)) .nil) (ren_tupL (.p rfl<|.i<|.nil)) (.turned .nil) rfl) rfl<|.g 19 rfl<|.bind fun x42 h9=>.st rfl (cl (CC.h h9) [2] [] [true] rfl (.p rfl<|.a kD<|.nil) (.p rfl (.i<|.i<|.nil) .nil) fnil (.cons (.v (.i<|.i<|.nil)) .nil) (ren_agg (K:=kI) _) (.turned .nil) rfl) rfl<|.g 2 rfl<|.bind fun x43 h10=>.st rfl (cl (CC.h h10) [2] [] [true] rfl (.p rfl<|.a kI<|.i<|.nil) (.p rfl (.i<|.i<|.nil) .nil) fnil (.cons (.v (.i<|.i<|.nil)) .nil) (ren_agg (K:=kI) _) (.turned .nil) rfl) rfl<|.g 7 rfl<|.st rfl (bs (kInt .u32) [3] rfl rfl) rfl<|.g 7 rfl<|?_
     refine .cut (fun x:Bool=>(expo_Ln_j2 x43 x41 a1 x37 x,[eI 1 a1,eP 4 1,eP 8 2,eI 10 (IntKind.i64.wrap (x37.1-1)),eP 11 3,eB 64 x],[(1,(.live 30 [(.bool false),(slK (kInt .u32) []),(.int .i64 0),(.bool false),(slK (kInt .u32) []),(.int .i64 0)])),(2,(.live 52 [(.int .i64 x43.2),(.int .i64 x41.2.2)])),(3,(.live 30 [(.bool ((((x43.1).Lo).M).Neg)),(slK (kInt .u32) ((((x43.1).Lo).M).Mag)),(.int .i64 (((x43.1).Lo).E)),(.bool ((((x43.1).Hi).M).Neg)),(slK (kInt .u32) ((((x43.1).Hi).M).Mag)),(.int .i64 (((x43.1).Hi).E))]))])) ?_ ?_
     ·rintro y46
      dsimp only [expo_Ln_j2]
      refine .g 1 rfl<|?_
      refine .cut (fun x:Int × Int × Bool × (List Int) × Int × Bool × (List Int) × Int=>(expo_Ln_j3 x41 a1 x.1 x.2.1 x.2.2.1 x.2.2.2.1 x.2.2.2.2.1 x.2.2.2.2.2.1 x.2.2.2.2.2.2.1 x.2.2.2.2.2.2.2,[eI 1 a1,eP 4 1,eP 8 2,eI 10 x.1,eP 11 3],[(1,(.live 30 [(.bool false),(slK (kInt .u32) []),(.int .i64 0),(.bool false),(slK (kInt .u32) []),(.int .i64 0)])),(2,(.live 52 [(.int .i64 x.2.1),(.int .i64 x41.2.2)])),(3,(.live 30 [(.bool x.2.2.1),(slK (kInt .u32) x.2.2.2.1),(.int .i64 x.2.2.2.2.1),(.bool x.2.2.2.2.2.1),(slK (kInt .u32) x.2.2.2.2.2.2.1),(.int .i64 x.2.2.2.2.2.2.2)]))])) ?_ ?_
      ·rintro ⟨y48,y49,y50,y51,y52,y53,y54,y55⟩
       dsimp only [expo_Ln_j3]
       refine .g 6 rfl<|.bind fun x56 h17=>.st rfl (cl (CC.h h17) [2] [] [true] rfl (.p rfl<|.i<|.nil) (.p rfl (.i<|.i<|.nil) .nil) fnil (.cons (.v (.i<|.i<|.nil)) .nil) (ren_agg (K:=kI) _) (.turned .nil) rfl) rfl<|.bind fun x57 h18=>.st rfl (cl (CC.h h18) [2] [] [true] rfl (.p rfl<|.a kI<|.a kI<|.nil) (.p rfl (.i<|.i<|.nil) .nil) fnil (.cons (.v (.i<|.i<|.nil)) .nil) (ren_agg (K:=kI) _) (.turned .nil) rfl) rfl<|.g 2 rfl<|.dn (by kernel_rfl)<|.g 8 rfl<|.bind fun x58 h19=>.st rfl (cl (CC.h h19) [2] [] [true] rfl (.p rfl<|.i<|.nil) (.p rfl (.i<|.i<|.nil) .nil) fnil (.cons (.v (.i<|.i<|.nil)) .nil) (ren_agg (K:=kI) _) (.turned .nil) rfl) rfl<|.bind fun x59 h20=>.st rfl (cl (CC.h h20) [2] [] [true] rfl (.p rfl<|.a kI<|.a kI<|.nil) (.p rfl (.i<|.i<|.nil) .nil) fnil (.cons (.v (.i<|.i<|.nil)) .nil) (ren_agg (K:=kI) _) (.turned .nil) rfl) rfl<|.bind fun x60 h21=>.st rfl (cl (CC.h h21) [2] [] [true] rfl (.p rfl<|.a kI<|.a kI<|.nil) (.p rfl (.i<|.i<|.nil) .nil) fnil (.cons (.v (.i<|.i<|.nil)) .nil) (ren_agg (K:=kI) _) (.turned .nil) rfl) rfl<|?_
       refine .g 2 rfl<|.dn (by kernel_rfl)<|.g 6 rfl<|.bind fun x61 h22=>.st rfl (cl (CC.h h22) [2] [] [true] rfl (.p rfl<|.a kI<|.nil) (.p rfl (.i<|.i<|.nil) .nil) fnil (.cons (.v (.i<|.i<|.nil)) .nil) (ren_agg (K:=kI) _) (.turned .nil) rfl) rfl<|.bind fun x62 h23=>.st rfl (cl (CC.h h23) [2] [] [true] rfl (.p rfl<|.a kI<|.i<|.nil) (.p rfl (.i<|.i<|.nil) .nil) fnil (.cons (.v (.i<|.i<|.nil)) .nil) (ren_agg (K:=kI) _) (.turned .nil) rfl) rfl<|.g 12 rfl<|.bind fun x63 h24=>.st rfl (cl (CC.h h24) [2] [] [true] rfl (.p rfl<|.i<|.nil) (.p rfl (.i<|.i<|.nil) .nil) fnil (.cons (.v (.i<|.i<|.nil)) .nil) (ren_agg (K:=kI) _) (.turned .nil) rfl) rfl<|.g 1 rfl<|.bind fun x64 h25=>.st rfl (cl (CC.h h25) [2] [] [true] rfl (.p rfl<|.nil) (.p rfl (.i<|.i<|.nil) .nil) fnil (.cons (.v (.i<|.i<|.nil)) .nil) (ren_agg (K:=kI) _) (.turned .nil) rfl) rfl<|.bind fun x65 h26=>?_
       refine .st rfl (cl (CC.h h26) [2] [] [true] rfl (.p rfl<|.a kI<|.a kI<|.nil) (.p rfl (.i<|.i<|.nil) .nil) fnil (.cons (.v (.i<|.i<|.nil)) .nil) (ren_agg (K:=kI) _) (.turned .nil) rfl) rfl<|.bind fun x66 h27=>.st rfl (cl (CC.h h27) [2] [] [true] rfl (.p rfl<|.a kI<|.a kI<|.nil) (.p rfl (.i<|.i<|.nil) .nil) fnil (.cons (.v (.i<|.i<|.nil)) .nil) (ren_agg (K:=kI) _) (.turned .nil) rfl) rfl<|.g 1 rfl<|.bind fun x67 h28=>.st rfl (cl (CC.h h28) [2] [] [false] rfl (.p rfl<|.a kI<|.i<|.nil) (.p rfl (.i<|.i<|.nil) .nil) fnil (.cons (.v (.i<|.i<|.nil)) .nil) (ren_tupL (.a kI<|.i<|.nil)) (.kept rfl .nil) rfl) rfl<|.g 4 rfl<|.dn (by kernel_rfl)<|.g 2 rfl<|.fi rfl rfl
      ·intro h29
       refine .cd rfl (fun _ _=>?_) fun _ _=>?_
       ·refine .g 3 rfl<|.bind fun x68 h32=>.st rfl (cl (CC.h h32) [2] [] [true] rfl (.p rfl<|.a kI<|.i<|.nil) (.p rfl (.i<|.i<|.nil) .nil) fnil (.cons (.v (.i<|.i<|.nil)) .nil) (ren_agg (K:=kI) _) (.turned .nil) rfl) rfl<|.g 5 rfl<|.jw (h29 ((IntKind.i64.wrap ((IntKind.i64.wrap (x37.1-1))+1)),x68.2,(((x68.1).Lo).M).Neg,(((x68.1).Lo).M).Mag,((x68.1).Lo).E,(((x68.1).Hi).M).Neg,(((x68.1).Hi).M).Mag,((x68.1).Hi).E)) [(1,1),(2,2),(3,3)] rfl
       ·refine .g 1 rfl<|.jw (h29 ((IntKind.i64.wrap (x37.1-1)),x43.2,(((x43.1).Lo).M).Neg,(((x43.1).Lo).M).Mag,((x43.1).Lo).E,(((x43.1).Hi).M).Neg,(((x43.1).Hi).M).Mag,((x43.1).Hi).E)) [(1,1),(2,2),(3,3)] rfl
     ·intro h33
      refine .g 4 rfl<|.bind fun x69 h34=>.st rfl (cl (CC.h h34) [2] [] [false] rfl (.p rfl<|.nil) (.p rfl (.i<|.i<|.nil) .nil) fnil (.cons (.v (.i<|.i<|.nil)) .nil) (.int _ _) (.kept rfl .nil) rfl) rfl<|.g 2 rfl<|?_
      refine .gd 58 rfl (fun _=>?_) fun _=>?_
      ·refine .g 3 rfl<|.p0 rfl rfl fun x70 _=>.g 3 rfl<|.jw (h33 (decide (x70≥0))) [(1,1),(2,2),(3,3)] rfl
      ·refine .g 7 rfl<|.jw (h33 false) [(1,1),(2,2),(3,3)] rfl
  ·intro h37
   refine .g 4 rfl<|?_
   refine .gd 29 rfl (fun _=>?_) fun _=>?_
   ·refine .g 5 rfl<|.jw (h37 true) [(0,0),(1,1)] rfl
   ·refine .g 5 rfl<|.jw (h37 a0.M.Neg) [(0,0),(1,1)] rfl
instance r01_Trim_i (a0:List Int):PC (r01_Trim a0) Tryz.prog 160 [(slK (kInt .u32) a0)] (fun r=>(slK (kInt .u32) r)):=pc func160 (by kernel_rfl) rfl fun E=>by
 unfold r01_Trim
 refine .g 8 rfl<|.ln rfl rfl<|.g 4 rfl<|?_
 refine .cut (fun x:Int=>(r01_Trim_j1 a0 x,[eL 0 a0,eI 3 x],[])) ?_ ?_
 ·rintro y17
  dsimp only [r01_Trim_j1]
  refine .g 11 rfl<|.guard fun h19=>.sv (slK (kInt .u32) (a0.take y17.toNat)) [] rfl (snd_sliceK (kInt .u32) _ _ _ _ _ _ 0 y17 rfl underlying22 si79 rfl rfl rfl rfl rfl h19) rfl<|.guard fun h20=>.sv (grA (kInt .u32) 0 (a0.take y17.toNat)) [(0,(grV (kInt .u32) 79 (a0.take y17.toNat)))] rfl (snd_appendK_nil0 (kInt .u32) _ _ _ _ _ 0 (a0.take y17.toNat) rfl underlying22 ze79 sb79 rfl rfl rfl rfl rfl h20) rfl<|.g 4 rfl<|?_
  refine .weak ?_ (fun a w h=>Conc.gr_still (kInt .u32) h 2 0 79 (a0.take y17.toNat) rfl rfl)
  exact .fi rfl rfl
 ·intro h21
  refine .g 1 rfl<|?_
  refine .lp (fun n (x:Int)=>r01_Trim_l2 a0 n x) (fun x=>([eL 0 a0,eI 3 x],[])) (a0.length:Int) [] rfl ?_
  rintro n2 y21
  try dsimp only
  rw [r01_Trim_l2]
  refine .g 2 rfl<|?_
  refine .cut (fun x:Bool=>(r01_Trim_j3 (fun z0=>r01_Trim_l2 a0 n2 z0) y21 a0 x,[eL 0 a0,eI 3 y21,eB 16 x],[])) ?_ ?_
  ·rintro y22
   dsimp only [r01_Trim_j3]
   refine .g 1 rfl<|?_
   refine .cd rfl (fun _ _=>?_) fun _ _=>?_
   ·refine .g 9 rfl<|.ag (IntKind.i64.wrap (y21-1)) [] rfl
   ·refine .g 4 rfl<|.jw (h21 y21) [] rfl
  ·intro h38
   refine .g 4 rfl<|?_
   refine .gd 9 rfl (fun _=>?_) fun _=>?_
   ·refine .g 3 rfl<|.ix rfl rfl<|.g 4 rfl<|.jw (h38 ((a0.getD ((IntKind.i64.wrap (y21-1)).toNat) (kInt .u32).z) == 0)) [] rfl
   ·refine .g 8 rfl<|.jw (h38 false) [] rfl
instance r01_From_i (a0:Int):PC (r01_From a0) Tryz.prog 190 [(.int .u64 a0)] (fun r=>(slK (kInt .u32) r)):=pc func190 (by kernel_rfl) rfl fun E=>by
 unfold r01_From
 refine .g 2 rfl<|.st rfl (as0 rfl) rfl<|.g 9 rfl<|.st rfl (bs (kInt .u32) [(IntKind.u32.wrap a0),(IntKind.u32.wrap (shrI .u64 a0 32))] rfl rfl) rfl<|.p0 rfl rfl fun x2 _=>.g 4 rfl<|.fi rfl rfl
instance r04_Make_i (a0:Bool) (a1:List Int):PC (r04_Make a0 a1) Tryz.prog 88 [(.bool a0),(slK (kInt .u32) a1)] (fun r=>(.agg (kN.enc (r)))):=pc func88 (by kernel_rfl) rfl fun E=>by
 unfold r04_Make
 refine .g 8 rfl<|.p0 rfl rfl fun x3 _=>.g 4 rfl<|?_
 refine .cut (fun x:Bool=>(r04_Make_j1 x3 x,[eP 4 0],[(0,(.live 24 [(.bool x),(slK (kInt .u32) x3)]))])) ?_ ?_
 ·rintro y4
  dsimp only [r04_Make_j1]
  refine .g 2 rfl<|.fi rfl rfl
 ·intro h3
  refine .g 3 rfl<|?_
  refine .gd 9 rfl (fun _=>?_) fun _=>?_
  ·refine .g 1 rfl<|.ln rfl rfl<|.g 6 rfl<|.jw (h3 (decide ((x3.length:Int)>0))) [(0,0)] rfl
  ·refine .g 8 rfl<|.jw (h3 false) [(0,0)] rfl
instance r04_From_i (a0:Int):PC (r04_From a0) Tryz.prog 127 [(.int .i64 a0)] (fun r=>(.agg (kN.enc (r)))):=pc func127 (by kernel_rfl) rfl fun E=>by
 unfold r04_From
 refine .g 12 rfl<|?_
 refine .cd rfl (fun _ _=>?_) fun _ _=>?_
 ·refine .g 7 rfl<|.p0 rfl rfl fun x5 _=>.p0 rfl rfl fun x6 _=>.g 5 rfl<|.fi rfl rfl
 ·refine .g 6 rfl<|.p0 rfl rfl fun x7 _=>.p0 rfl rfl fun x8 _=>.g 4 rfl<|.fi rfl rfl
instance r01_Bit_i (a0:List Int) (a1:Int):PC (r01_Bit a0 a1) Tryz.prog 188 [(slK (kInt .u32) a0),(.int .i64 a1)] (fun r=>(.bool r)):=pc func188 (by kernel_rfl) rfl fun E=>by
 unfold r01_Bit
 refine .g 7 rfl<|?_
 refine .cut (fun x:Bool=>(r01_Bit_j1 a1 a0 x,[eL 0 a0,eI 1 a1,eB 13 x],[])) ?_ ?_
 ·rintro y2
  dsimp only [r01_Bit_j1]
  refine .g 1 rfl<|?_
  refine .cd rfl (fun _ _=>?_) fun _ _=>?_
  ·refine .g 7 rfl<|.fi rfl rfl
  ·refine .g 7 rfl<|.ix rfl rfl<|.g 3 rfl<|.guard fun h5=>.st rfl (snd_shr _ _ _ _ _ _ _ _ rfl rfl rfl rfl rfl h5) rfl<|.g 6 rfl<|.fi rfl rfl
 ·intro h6
  refine .g 4 rfl<|?_
  refine .gd 7 rfl (fun _=>?_) fun _=>?_
  ·refine .g 7 rfl<|.jw (h6 true) [] rfl
  ·refine .g 3 rfl<|.ln rfl rfl<|.g 3 rfl<|.jw (h6 (decide ((IntKind.i64.wrap (a1.tdiv 32))≥(a0.length:Int)))) [] rfl
instance r01_at_i (a0:List Int) (a1:Int):PC (r01_at a0 a1) Tryz.prog 218 [(slK (kInt .u32) a0),(.int .i64 a1)] (fun r=>(.int .u64 r)):=pc func218 (by kernel_rfl) rfl fun E=>by
 unfold r01_at
 refine .g 10 rfl<|.ln rfl rfl<|.g 3 rfl<|?_
 refine .cd rfl (fun _ _=>?_) fun _ _=>?_
 ·refine .g 7 rfl<|.fi rfl rfl
 ·refine .g 6 rfl<|.ix rfl rfl<|.g 6 rfl<|.fi rfl rfl
instance r01_Shr_i (a0:List Int) (a1:Int):PC (r01_Shr a0 a1) Tryz.prog 189 [(slK (kInt .u32) a0),(.int .i64 a1)] (fun r=>(slK (kInt .u32) r)):=pc func189 (by kernel_rfl) rfl fun E=>by
 unfold r01_Shr
 refine .g 12 rfl<|?_
 refine .cd rfl (fun _ _=>?_) fun _ _=>?_
 ·refine .g 3 rfl<|.p0 rfl rfl fun x36 _=>.g 5 rfl<|.fi rfl rfl
 ·refine .g 8 rfl<|.ln rfl rfl<|.g 3 rfl<|?_
  refine .cd rfl (fun _ _=>?_) fun _ _=>?_
  ·refine .g 7 rfl<|.fj rfl rfl AVle.nil
  ·refine .g 15 rfl<|?_
   refine .cut (fun x:(List Int)=>(r01_Shr_j1 x,[(5,some (grA (kInt .u32) 0 x))],[(0,(grV (kInt .u32) 79 x))])) ?_ ?_
   ·rintro y53
    dsimp only [r01_Shr_j1]
    refine .g 2 rfl<|?_
    refine .weak ?_ (fun a w h=>Conc.gr_still (kInt .u32) h 5 0 79 y53 rfl rfl)
    refine .g 2 rfl<|.p0 rfl rfl fun x54 _=>.g 4 rfl<|.fi rfl rfl
   ·intro h37
    refine .g 1 rfl<|?_
    refine .weak ?_ (fun a w h=>Conc.gr_nil (kInt .u32) h 5 0 79 rfl)
    refine .lo (fun n (x:Int × (List Int))=>r01_Shr_l2 a0 a1 n x.1 x.2) (fun x=>([eL 0 a0,eI 1 a1,(5,some (grA (kInt .u32) 0 x.2)),eI 6 x.1],[(0,(grV (kInt .u32) 79 x.2))])) ((IntKind.i64.wrap (a1.tdiv 32)),[]) rfl (fun hE=>jn (m:=0) [(0,0)] hE (.l rfl<|.i rfl<|.g rfl (ren_gr (K:=(kInt .u32)) (by rfl) [])<|.i rfl<|.nil) (.cons (.refl _) (renV_gr (K:=(kInt .u32)) 79 [])<|.nil) rfl) ?_
    rintro n2 ⟨y65,y66⟩
    try dsimp only
    rw [r01_Shr_l2]
    refine .g 5 rfl<|.ln rfl rfl<|.g 3 rfl<|?_
    refine .cd rfl (fun _ _=>?_) fun _ _=>?_
    ·refine .g 8 rfl<|.p0 rfl rfl fun x69 _=>.g 3 rfl<|.p0 rfl rfl fun x70 _=>.g 10 rfl<|.guard fun h66=>.st rfl (snd_shr _ _ _ _ _ _ _ _ rfl rfl rfl rfl rfl h66) rfl<|.g 1 rfl<|.st rfl (bs (kInt .u32) [(IntKind.u32.wrap (shrI .u64 (orI .u64 x69 (shlI .u64 x70 32)) (a1.tmod 32)))] rfl rfl) rfl<|.guard fun h67=>.sv (.row 1 (kInt .u32).sz 0 (((y66++[(IntKind.u32.wrap (shrI .u64 (orI .u64 x69 (shlI .u64 x70 32)) (a1.tmod 32)))])).length)) [(1,(rwK (kInt .u32) 79 (y66++[(IntKind.u32.wrap (shrI .u64 (orI .u64 x69 (shlI .u64 x70 32)) (a1.tmod 32)))]))),(0,.dead)] rfl (snd_appendK_gr (kInt .u32) _ _ _ _ _ 0 1 y66 [(IntKind.u32.wrap (shrI .u64 (orI .u64 x69 (shlI .u64 x70 32)) (a1.tmod 32)))] rfl underlying22 ze79 sb79 rfl rfl rfl rfl rfl rfl rfl h67) rfl<|.g 9 rfl<|?_
     refine .weak ?_ (fun a w h=>Conc.gr_row (kInt .u32) h 5 1 79 (y66++[(IntKind.u32.wrap (shrI .u64 (orI .u64 x69 (shlI .u64 x70 32)) (a1.tmod 32)))]) rfl rfl (by first | omega | (simp only [List.length_append,List.length_cons,List.length_set]; omega) | simp))
     exact .ao ((IntKind.i64.wrap (y65+1)),(y66++[(IntKind.u32.wrap (shrI .u64 (orI .u64 x69 (shlI .u64 x70 32)) (a1.tmod 32)))])) rfl fun hE=>jn (m:=0) [(1,0)] hE (.l rfl<|.i rfl<|.g rfl (ren_gr (K:=(kInt .u32)) (by rfl) (y66++[(IntKind.u32.wrap (shrI .u64 (orI .u64 x69 (shlI .u64 x70 32)) (a1.tmod 32)))]))<|.i rfl<|.nil) (.cons (.refl _) (renV_gr (K:=(kInt .u32)) 79 (y66++[(IntKind.u32.wrap (shrI .u64 (orI .u64 x69 (shlI .u64 x70 32)) (a1.tmod 32)))]))<|.nil) rfl
    ·refine .g 4 rfl<|.jo (h37 y66) rfl fun hE=>jn (m:=0) [(0,0)] hE (.g rfl (ren_gr (K:=(kInt .u32)) (by rfl) y66)<|.nil) (.cons (.refl _) (renV_gr (K:=(kInt .u32)) 79 y66)<|.nil) rfl
instance r05_norm_i (a0:ApiInt) (a1:Int):PC (r05_norm a0 a1) Tryz.prog 126 [(.agg (kN.enc a0)),(.int .i64 a1)] (fun r=>(.agg (kD.enc (⟨((r).M),(r).E⟩:AD)))):=pc func126 (by kernel_rfl) rfl fun E=>by
 unfold r05_norm
 refine .g 12 rfl<|.p0 rfl rfl fun x15 _=>.g 9 rfl<|.ln rfl rfl<|.g 3 rfl<|?_
 refine .cd rfl (fun _ _=>?_) fun _ _=>?_
 ·refine .g 8 rfl<|.fi rfl rfl
 ·refine .g 8 rfl<|?_
  refine .cut (fun x:Int=>(r05_norm_j1 x15 a1 x,[eI 1 a1,eP 4 1,eP 5 2,eI 6 x],[(1,(.live 26 [(.bool false),(slK (kInt .u32) []),(.int .i64 0)])),(2,(.live 24 [(.bool ((x15).Neg)),(slK (kInt .u32) ((x15).Mag))]))])) ?_ ?_
  ·rintro y21
   dsimp only [r05_norm_j1]
   refine .g 8 rfl<|.p0 rfl rfl fun x22 _=>.p0 rfl rfl fun x23 _=>.g 5 rfl<|.dn (by kernel_rfl)<|.g 2 rfl<|.fi rfl rfl
  ·intro h15
   refine .g 1 rfl<|?_
   refine .lp (fun n (x:Int)=>r05_norm_l2 x15 a1 n x) (fun x=>([eI 1 a1,eP 4 1,eP 5 2,eI 6 x],[(1,(.live 26 [(.bool false),(slK (kInt .u32) []),(.int .i64 0)])),(2,(.live 24 [(.bool ((x15).Neg)),(slK (kInt .u32) ((x15).Mag))]))])) 0 [(1,1),(2,2)] rfl ?_
   rintro n2 y27
   try dsimp only
   rw [r05_norm_l2]
   refine .g 6 rfl<|.p0 rfl rfl fun x28 _=>.g 3 rfl<|?_
   refine .cd rfl (fun _ _=>?_) fun _ _=>?_
   ·refine .g 9 rfl<|.ag (IntKind.i64.wrap (y27+1)) [(1,1),(2,2)] rfl
   ·refine .g 4 rfl<|.jw (h15 y27) [(1,1),(2,2)] rfl
instance r05_From_i (a0:Int):PC (r05_From a0) Tryz.prog 60 [(.int .i64 a0)] (fun r=>(.agg (kD.enc (⟨((r).M),(r).E⟩:AD)))):=pc func60 (by kernel_rfl) rfl fun E=>by
 unfold r05_From
 refine .g 8 rfl<|.p0 rfl rfl fun x3 _=>.p0 rfl rfl fun x4 _=>.g 4 rfl<|.fi rfl rfl
instance small_Exp_1_i (a0:Int) (a1:AI) (a2:Int) (a3:Int) (a4:Bool) (a5:List Int) (a6:Int) (a7:Bool) (a8:List Int) (a9:Int):CC (small_Exp_1 a0 a1 a2 a3 a4 a5 a6 a7 a8 a9) Tryz.prog 132 [(.int .i64 a0),(.agg (kI.enc a1)),(.ptr 0 0),(.ptr 2 0)] [(.live 39 [(.ptr 1 0)]),(.live 52 [(.int .i64 a2),(.int .i64 a3)]),(.live 30 [(.bool a4),(slK (kInt .u32) a5),(.int .i64 a6),(.bool a7),(slK (kInt .u32) a8),(.int .i64 a9)])] (fun r=>(.agg (kI.enc (⟨⟨(((r.1).Lo).M),((r.1).Lo).E⟩,⟨(((r.1).Hi).M),((r.1).Hi).E⟩⟩:AI)))) (fun r=>[(.live 39 [(.ptr 1 0)]),(.live 52 [(.int .i64 r.2),(.int .i64 a3)]),(.live 30 [(.bool a4),(slK (kInt .u32) a5),(.int .i64 a6),(.bool a7),(slK (kInt .u32) a8),(.int .i64 a9)])]):=cc func132 (by kernel_rfl) rfl fun E=>by
 unfold small_Exp_1
 refine .g 12 rfl<|.bind fun x4 h1=>.st rfl (cl (CC.h h1) [1] [] [true] rfl (.p rfl<|.a kI<|.a kI<|.nil) (.p rfl (.i<|.i<|.nil) .nil) fnil (.cons (.v (.i<|.i<|.nil)) .nil) (ren_agg (K:=kI) _) (.turned .nil) rfl) rfl<|.g 2 rfl<|.bind fun x5 h2=>.st rfl (cl (CC.h h2) [1] [] [true] rfl (.p rfl<|.i<|.nil) (.p rfl (.i<|.i<|.nil) .nil) fnil (.cons (.v (.i<|.i<|.nil)) .nil) (ren_agg (K:=kI) _) (.turned .nil) rfl) rfl<|.bind fun x6 h3=>.st rfl (cl (CC.h h3) [1] [] [true] rfl (.p rfl<|.a kI<|.a kI<|.nil) (.p rfl (.i<|.i<|.nil) .nil) fnil (.cons (.v (.i<|.i<|.nil)) .nil) (ren_agg (K:=kI) _) (.turned .nil) rfl) rfl<|.g 1 rfl<|.dn (by kernel_rfl)<|.g 2 rfl<|.fi rfl rfl
instance small_plain_1_c88c_i (a0:Int) (a1:AI) (a2:Int) (a3:Int) (a4:Bool) (a5:List Int) (a6:Int) (a7:Bool) (a8:List Int) (a9:Int):CC (small_plain_1_c88c a0 a1 a2 a3 a4 a5 a6 a7 a8 a9) Tryz.prog 194 [(.int .i64 a0),(.agg (kI.enc a1)),(.ptr 0 0)] [(.live 131 [(.fn 132 [] [(.ptr 1 0),(.ptr 3 0)])]),(.live 39 [(.ptr 2 0)]),(.live 52 [(.int .i64 a2),(.int .i64 a3)]),(.live 30 [(.bool a4),(slK (kInt .u32) a5),(.int .i64 a6),(.bool a7),(slK (kInt .u32) a8),(.int .i64 a9)])] (fun r=>(.tup [(.agg (kI.enc (⟨⟨(((r.1).Lo).M),((r.1).Lo).E⟩,⟨(((r.1).Hi).M),((r.1).Hi).E⟩⟩:AI))),(.agg (kI.enc (⟨⟨(((r.2.1).Lo).M),((r.2.1).Lo).E⟩,⟨(((r.2.1).Hi).M),((r.2.1).Hi).E⟩⟩:AI)))])) (fun r=>[(.live 131 [(.fn 132 [] [(.ptr 1 0),(.ptr 3 0)])]),(.live 39 [(.ptr 2 0)]),(.live 52 [(.int .i64 r.2.2),(.int .i64 a3)]),(.live 30 [(.bool a4),(slK (kInt .u32) a5),(.int .i64 a6),(.bool a7),(slK (kInt .u32) a8),(.int .i64 a9)])]):=cc func194 (by kernel_rfl) rfl fun E=>by
 unfold small_plain_1_c88c
 refine .g 12 rfl<|.bind fun x2 h1=>.st rfl (cl (CC.h h1) [1,2,3] [] [false,true,false] rfl (.i<|.a kI<|.p rfl<|.p rfl<|.nil) (.p rfl (.p rfl<|.nil) (.p rfl (.i<|.i<|.nil) (.p rfl (.b<|.l<|.i<|.b<|.l<|.i<|.nil) .nil))) fnil (.cons (.v (.p rfl<|.nil)) (.cons (.v (.i<|.i<|.nil)) (.cons (.v (.b<|.l<|.i<|.b<|.l<|.i<|.nil)) .nil))) (ren_agg (K:=kI) _) (.kept rfl (.turned (.kept rfl .nil))) rfl) rfl<|.g 9 rfl<|.dn (by kernel_rfl)<|.g 2 rfl<|.fi rfl rfl
instance small_series_361b_i (a0:AI) (a1:Int) (a2:Int) (a3:Bool) (a4:List Int) (a5:Int) (a6:Bool) (a7:List Int) (a8:Int):CC (small_series_361b a0 a1 a2 a3 a4 a5 a6 a7 a8) Tryz.prog 193 [(.ptr 0 0),(.agg (kI.enc a0)),(.fn 194 [] [(.ptr 1 0)])] [(.live 52 [(.int .i64 a1),(.int .i64 a2)]),(.live 131 [(.fn 132 [] [(.ptr 2 0),(.ptr 3 0)])]),(.live 39 [(.ptr 0 0)]),(.live 30 [(.bool a3),(slK (kInt .u32) a4),(.int .i64 a5),(.bool a6),(slK (kInt .u32) a7),(.int .i64 a8)])] (fun r=>(.agg (kI.enc (⟨⟨(((r.1).Lo).M),((r.1).Lo).E⟩,⟨(((r.1).Hi).M),((r.1).Hi).E⟩⟩:AI)))) (fun r=>[(.live 52 [(.int .i64 r.2),(.int .i64 a2)]),(.live 131 [(.fn 132 [] [(.ptr 2 0),(.ptr 3 0)])]),(.live 39 [(.ptr 0 0)]),(.live 30 [(.bool a3),(slK (kInt .u32) a4),(.int .i64 a5),(.bool a6),(slK (kInt .u32) a7),(.int .i64 a8)])]):=cc func193 (by kernel_rfl) rfl fun E=>by
 unfold small_series_361b
 refine .g 14 rfl<|.dn (by kernel_rfl)<|.g 5 rfl<|.bind fun x93 h1=>.st rfl (cl (CC.h h1) [0] [] [false] rfl (.p rfl<|.nil) (.p rfl (.i<|.i<|.nil) .nil) fnil (.cons (.v (.i<|.i<|.nil)) .nil) (.int _ _) (.kept rfl .nil) rfl) rfl<|.p0 rfl rfl fun x94 _=>.g 3 rfl<|?_
 refine .cut (fun x:Int × Bool × (List Int) × Int × Bool × (List Int) × Int=>(small_series_361b_j1 a2 x.1 x.2.1 x.2.2.1 x.2.2.2.1 x.2.2.2.2.1 x.2.2.2.2.2.1 x.2.2.2.2.2.2,[eP 0 0,eP 6 5,eP 7 6],[(0,(.live 52 [(.int .i64 x.1),(.int .i64 a2)])),(1,(.live 131 [(.fn 132 [] [(.ptr 2 0),(.ptr 3 0)])])),(2,(.live 39 [(.ptr 0 0)])),(3,(.live 30 [(.bool a3),(slK (kInt .u32) a4),(.int .i64 a5),(.bool a6),(slK (kInt .u32) a7),(.int .i64 a8)])),(5,(.live 30 [(.bool false),(slK (kInt .u32) []),(.int .i64 0),(.bool false),(slK (kInt .u32) []),(.int .i64 0)])),(6,(.live 30 [(.bool x.2.1),(slK (kInt .u32) x.2.2.1),(.int .i64 x.2.2.2.1),(.bool x.2.2.2.2.1),(slK (kInt .u32) x.2.2.2.2.2.1),(.int .i64 x.2.2.2.2.2.2)]))])) ?_ ?_
 ·rintro ⟨y135,y136,y137,y138,y139,y140,y141⟩
  dsimp only [small_series_361b_j1]
  refine .g 6 rfl<|.bind fun x142 h21=>.st rfl (cl (CC.h h21) [0] [] [false] rfl (.p rfl<|.nil) (.p rfl (.i<|.i<|.nil) .nil) fnil (.cons (.v (.i<|.i<|.nil)) .nil) (.int _ _) (.kept rfl .nil) rfl) rfl<|.g 1 rfl<|.p0 rfl rfl fun x143 _=>.bind fun x144 h23=>.st rfl (cl (CC.h h23) [0] [] [true] rfl (.p rfl<|.a kI<|.a kD<|.nil) (.p rfl (.i<|.i<|.nil) .nil) fnil (.cons (.v (.i<|.i<|.nil)) .nil) (ren_agg (K:=kI) _) (.turned .nil) rfl) rfl<|.g 1 rfl<|.dn (by kernel_rfl)<|.g 2 rfl<|.fi rfl rfl
 ·intro h24
  refine .g 1 rfl<|?_
  refine .lp (fun n (x:Int × Int × Bool × (List Int) × Int × Bool × (List Int) × Int × Bool × (List Int) × Int × Bool × (List Int) × Int)=>small_series_361b_l2 x94 a2 a3 a4 a5 a6 a7 a8 n x.1 x.2.1 x.2.2.1 x.2.2.2.1 x.2.2.2.2.1 x.2.2.2.2.2.1 x.2.2.2.2.2.2.1 x.2.2.2.2.2.2.2.1 x.2.2.2.2.2.2.2.2.1 x.2.2.2.2.2.2.2.2.2.1 x.2.2.2.2.2.2.2.2.2.2.1 x.2.2.2.2.2.2.2.2.2.2.2.1 x.2.2.2.2.2.2.2.2.2.2.2.2.1 x.2.2.2.2.2.2.2.2.2.2.2.2.2) (fun x=>([eP 0 0,(2,some (.fn 194 [] [(.ptr 1 0)])),eP 6 5,eP 7 6,eP 8 7,eI 15 x94,eI 16 x.1],[(0,(.live 52 [(.int .i64 x.2.1),(.int .i64 a2)])),(1,(.live 131 [(.fn 132 [] [(.ptr 2 0),(.ptr 3 0)])])),(2,(.live 39 [(.ptr 0 0)])),(3,(.live 30 [(.bool a3),(slK (kInt .u32) a4),(.int .i64 a5),(.bool a6),(slK (kInt .u32) a7),(.int .i64 a8)])),(5,(.live 30 [(.bool false),(slK (kInt .u32) []),(.int .i64 0),(.bool false),(slK (kInt .u32) []),(.int .i64 0)])),(6,(.live 30 [(.bool x.2.2.1),(slK (kInt .u32) x.2.2.2.1),(.int .i64 x.2.2.2.2.1),(.bool x.2.2.2.2.2.1),(slK (kInt .u32) x.2.2.2.2.2.2.1),(.int .i64 x.2.2.2.2.2.2.2.1)])),(7,(.live 30 [(.bool x.2.2.2.2.2.2.2.2.1),(slK (kInt .u32) x.2.2.2.2.2.2.2.2.2.1),(.int .i64 x.2.2.2.2.2.2.2.2.2.2.1),(.bool x.2.2.2.2.2.2.2.2.2.2.2.1),(slK (kInt .u32) x.2.2.2.2.2.2.2.2.2.2.2.2.1),(.int .i64 x.2.2.2.2.2.2.2.2.2.2.2.2.2)]))])) (0,a1,a0.Lo.M.Neg,a0.Lo.M.Mag,a0.Lo.E,a0.Hi.M.Neg,a0.Hi.M.Mag,a0.Hi.E,a0.Lo.M.Neg,a0.Lo.M.Mag,a0.Lo.E,a0.Hi.M.Neg,a0.Hi.M.Mag,a0.Hi.E) [(0,0),(1,1),(2,2),(3,3),(5,5),(6,6),(7,7)] rfl ?_
  rintro n2 ⟨y167,y168,y169,y170,y171,y172,y173,y174,y175,y176,y177,y178,y179,y180⟩
  try dsimp only
  rw [small_series_361b_l2]
  refine .g 6 rfl<|?_
  refine .cd rfl (fun _ _=>?_) fun _ _=>?_
  ·refine .g 21 rfl<|.bind fun x183 h41=>.st rfl (cl (CC.h h41) [1,2,0,3] [] [false,false,true,false] rfl (.i<|.a kI<|.p rfl<|.nil) (.p rfl (.cons (ren_fnL _ .nil (.p rfl<|.p rfl<|.nil))<|.nil) (.p rfl (.p rfl<|.nil) (.p rfl (.i<|.i<|.nil) (.p rfl (.b<|.l<|.i<|.b<|.l<|.i<|.nil) .nil)))) fnil (.cons (.v (.cons (ren_fnL _ .nil (.p rfl<|.p rfl<|.nil))<|.nil)) (.cons (.v (.p rfl<|.nil)) (.cons (.v (.i<|.i<|.nil)) (.cons (.v (.b<|.l<|.i<|.b<|.l<|.i<|.nil)) .nil)))) (ren_tupL (.a kI<|.a kI<|.nil)) (.kept rfl (.kept rfl (.turned (.kept rfl .nil)))) rfl) rfl<|.g 11 rfl<|.bind fun x184 h42=>.st rfl (cl (CC.h h42) [0] [] [true] rfl (.p rfl<|.a kI<|.a kI<|.nil) (.p rfl (.i<|.i<|.nil) .nil) fnil (.cons (.v (.i<|.i<|.nil)) .nil) (ren_agg (K:=kI) _) (.turned .nil) rfl) rfl<|.g 8 rfl<|.ag ((IntKind.i64.wrap (y167+1)),x184.2,(((x184.1).Lo).M).Neg,(((x184.1).Lo).M).Mag,((x184.1).Lo).E,(((x184.1).Hi).M).Neg,(((x184.1).Hi).M).Mag,((x184.1).Hi).E,(((x183.1).Lo).M).Neg,(((x183.1).Lo).M).Mag,((x183.1).Lo).E,(((x183.1).Hi).M).Neg,(((x183.1).Hi).M).Mag,((x183.1).Hi).E) [(0,0),(1,1),(2,2),(3,3),(5,5),(6,6),(7,7)] rfl
  ·refine .g 4 rfl<|.jw (h24 (y168,y169,y170,y171,y172,y173,y174)) [(0,0),(1,1),(2,2),(3,3),(5,5),(6,6)] rfl
instance small_plain_1fcd_i (a0:AI) (a1:Int) (a2:Int) (a3:Bool) (a4:List Int) (a5:Int) (a6:Bool) (a7:List Int) (a8:Int):CC (small_plain_1fcd a0 a1 a2 a3 a4 a5 a6 a7 a8) Tryz.prog 131 [(.ptr 0 0),(.agg (kI.enc a0)),(.fn 132 [] [(.ptr 1 0),(.ptr 2 0)])] [(.live 52 [(.int .i64 a1),(.int .i64 a2)]),(.live 39 [(.ptr 0 0)]),(.live 30 [(.bool a3),(slK (kInt .u32) a4),(.int .i64 a5),(.bool a6),(slK (kInt .u32) a7),(.int .i64 a8)])] (fun r=>(.agg (kI.enc (⟨⟨(((r.1).Lo).M),((r.1).Lo).E⟩,⟨(((r.1).Hi).M),((r.1).Hi).E⟩⟩:AI)))) (fun r=>[(.live 52 [(.int .i64 r.2),(.int .i64 a2)]),(.live 39 [(.ptr 0 0)]),(.live 30 [(.bool a3),(slK (kInt .u32) a4),(.int .i64 a5),(.bool a6),(slK (kInt .u32) a7),(.int .i64 a8)])]):=cc func131 (by kernel_rfl) rfl fun E=>by
 unfold small_plain_1fcd
 refine .g 12 rfl<|.bind fun x2 h1=>.st rfl (cl (CC.h h1) [0,4,1,2] [] [true,false,false,false] rfl (.p rfl<|.a kI<|.cons (ren_fnL _ .nil (.p rfl<|.nil))<|.nil) (.p rfl (.i<|.i<|.nil) (.p rfl (.cons (ren_fnL _ .nil (.p rfl<|.p rfl<|.nil))<|.nil) (.p rfl (.p rfl<|.nil) (.p rfl (.b<|.l<|.i<|.b<|.l<|.i<|.nil) .nil)))) fnil (.cons (.v (.i<|.i<|.nil)) (.cons (.v (.cons (ren_fnL _ .nil (.p rfl<|.p rfl<|.nil))<|.nil)) (.cons (.v (.p rfl<|.nil)) (.cons (.v (.b<|.l<|.i<|.b<|.l<|.i<|.nil)) .nil)))) (ren_agg (K:=kI) _) (.turned (.kept rfl (.kept rfl (.kept rfl .nil)))) rfl) rfl<|.g 4 rfl<|.fi rfl rfl
instance small_Exp_i (a0:AI) (a1:Int) (a2:Int):CC (small_Exp a0 a1 a2) Tryz.prog 64 [(.ptr 0 0),(.agg (kI.enc a0))] [(.live 52 [(.int .i64 a1),(.int .i64 a2)])] (fun r=>(.agg (kI.enc (⟨⟨(((r.1).Lo).M),((r.1).Lo).E⟩,⟨(((r.1).Hi).M),((r.1).Hi).E⟩⟩:AI)))) (fun r=>[(.live 52 [(.int .i64 r.2),(.int .i64 a2)])]):=cc func64 (by kernel_rfl) rfl fun E=>by
 unfold small_Exp
 refine .g 12 rfl<|.bind fun x4 h1=>.st rfl (cl (CC.h h1) [0] [] [true] rfl (.p rfl<|.a kI<|.i<|.nil) (.p rfl (.i<|.i<|.nil) .nil) fnil (.cons (.v (.i<|.i<|.nil)) .nil) (.bool _) (.turned .nil) rfl) rfl<|.g 3 rfl<|?_
 refine .cd rfl (fun _ _=>?_) fun _ _=>?_
 ·refine .g 8 rfl<|.fi rfl rfl
 ·refine .g 6 rfl<|.bind fun x5 h4=>.st rfl (cl (CC.h h4) [0] [] [true] rfl (.p rfl<|.i<|.nil) (.p rfl (.i<|.i<|.nil) .nil) fnil (.cons (.v (.i<|.i<|.nil)) .nil) (ren_agg (K:=kI) _) (.turned .nil) rfl) rfl<|.g 1 rfl<|.bind fun x6 h5=>.st rfl (cl (CC.h h5) [0,1,2] [] [true,false,false] rfl (.p rfl<|.a kI<|.cons (ren_fnL _ .nil (.p rfl<|.p rfl<|.nil))<|.nil) (.p rfl (.i<|.i<|.nil) (.p rfl (.p rfl<|.nil) (.p rfl (.b<|.l<|.i<|.b<|.l<|.i<|.nil) .nil))) fnil (.cons (.v (.i<|.i<|.nil)) (.cons (.v (.p rfl<|.nil)) (.cons (.v (.b<|.l<|.i<|.b<|.l<|.i<|.nil)) .nil))) (ren_agg (K:=kI) _) (.turned (.kept rfl (.kept rfl .nil))) rfl) rfl<|.g 1 rfl<|.dn (by kernel_rfl)<|.g 2 rfl<|.fi rfl rfl
instance expo_Exp_i (a0:AD) (a1:Int):PC (expo_Exp a0 a1) Tryz.prog 17 [(.agg (kD.enc a0)),(.int .i64 a1)] (fun r=>(.tup [(.agg (kI.enc (⟨⟨(((r.1).Lo).M),((r.1).Lo).E⟩,⟨(((r.1).Hi).M),((r.1).Hi).E⟩⟩:AI))),(.int .i64 r.2)])):=pc func17 (by kernel_rfl) rfl fun E=>by
 unfold expo_Exp
 refine .g 12 rfl<|.st rfl (bs kD [a0] rfl rfl) rfl<|.p0 rfl rfl fun x63 _=>.g 3 rfl<|?_
 refine .cd rfl (fun _ _=>?_) fun _ _=>?_
 ·refine .g 9 rfl<|.fi rfl rfl
 ·refine .g 5 rfl<|.p0 rfl rfl fun x64 _=>.g 9 rfl<|?_
  refine .cut (fun x:Bool=>(expo_Exp_j1 x64 a1 a0 x,[eI 1 a1,eP 2 0,eP 4 1,eI 6 x64.1,eB 7 x64.2,eB 27 x],[(0,(.live 26 [(.bool a0.M.Neg),(slK (kInt .u32) a0.M.Mag),(.int .i64 a0.E)])),(1,(.live 30 [(.bool false),(slK (kInt .u32) []),(.int .i64 0),(.bool false),(slK (kInt .u32) []),(.int .i64 0)]))])) ?_ ?_
  ·rintro y65
   dsimp only [expo_Exp_j1]
   refine .g 1 rfl<|?_
   refine .cd rfl (fun _ _=>?_) fun _ _=>?_
   ·refine .g 9 rfl<|.fi rfl rfl
   ·refine .g 13 rfl<|?_
    refine .cut (fun x:Int=>(expo_Exp_j2 a1 a0 x,[eI 1 a1,eP 2 0,eP 4 1,eI 8 x],[(0,(.live 26 [(.bool a0.M.Neg),(slK (kInt .u32) a0.M.Mag),(.int .i64 a0.E)])),(1,(.live 30 [(.bool false),(slK (kInt .u32) []),(.int .i64 0),(.bool false),(slK (kInt .u32) []),(.int .i64 0)]))])) ?_ ?_
    ·rintro y66
     dsimp only [expo_Exp_j2]
     refine .g 5 rfl<|.bind fun x67 h10=>?_
     rcases x67 with x68 | x69
     ·dsimp only
      refine .st rfl (cl (iv_New_k_0 h10) [] [2] [true] rfl (.i<|.nil) .nil (fresh_cons rfl fnil) (.cons .dead .nil) (ren_tupL (.cons .nilptr<|.i<|.nil)) (.turned .nil) rfl) rfl<|.g 13 rfl<|.no
     ·dsimp only
      refine .st rfl (cl (iv_New_k_1 h10) [] [2] [true] rfl (.i<|.nil) .nil (fresh_cons rfl fnil) (.cons (.v (.i<|.i<|.nil)) .nil) (ren_tupL (.p rfl<|.i<|.nil)) (.turned .nil) rfl) rfl<|.g 13 rfl<|.bind fun x70 h11=>.st rfl (cl (CC.h h11) [2] [] [true] rfl (.p rfl<|.a kD<|.nil) (.p rfl (.i<|.i<|.nil) .nil) fnil (.cons (.v (.i<|.i<|.nil)) .nil) (ren_agg (K:=kI) _) (.turned .nil) rfl) rfl<|.g 2 rfl<|.bind fun x71 h12=>.st rfl (cl (CC.h h12) [2] [] [true] rfl (.p rfl<|.a kI<|.i<|.nil) (.p rfl (.i<|.i<|.nil) .nil) fnil (.cons (.v (.i<|.i<|.nil)) .nil) (ren_agg (K:=kI) _) (.turned .nil) rfl) rfl<|.bind fun x72 h13=>.st rfl (cl (CC.h h13) [2] [] [true] rfl (.p rfl<|.a kI<|.nil) (.p rfl (.i<|.i<|.nil) .nil) fnil (.cons (.v (.i<|.i<|.nil)) .nil) (ren_agg (K:=kI) _) (.turned .nil) rfl) rfl<|.g 11 rfl<|?_
      refine .cut (fun x:Int × Bool × (List Int) × Int × Bool × (List Int) × Int=>(expo_Exp_j3 a1 x69 x.1 x.2.1 x.2.2.1 x.2.2.2.1 x.2.2.2.2.1 x.2.2.2.2.2.1 x.2.2.2.2.2.2,[eI 1 a1,eP 4 1,eP 9 2,eP 11 3],[(1,(.live 30 [(.bool false),(slK (kInt .u32) []),(.int .i64 0),(.bool false),(slK (kInt .u32) []),(.int .i64 0)])),(2,(.live 52 [(.int .i64 x.1),(.int .i64 x69.2.2)])),(3,(.live 30 [(.bool x.2.1),(slK (kInt .u32) x.2.2.1),(.int .i64 x.2.2.2.1),(.bool x.2.2.2.2.1),(slK (kInt .u32) x.2.2.2.2.2.1),(.int .i64 x.2.2.2.2.2.2)]))])) ?_ ?_
      ·rintro ⟨y95,y96,y97,y98,y99,y100,y101⟩
       dsimp only [expo_Exp_j3]
       refine .g 6 rfl<|.bind fun x102 h26=>.st rfl (cl (CC.h h26) [2] [] [false] rfl (.p rfl<|.a kI<|.i<|.nil) (.p rfl (.i<|.i<|.nil) .nil) fnil (.cons (.v (.i<|.i<|.nil)) .nil) (ren_tupL (.a kI<|.i<|.nil)) (.kept rfl .nil) rfl) rfl<|.g 7 rfl<|.fi rfl rfl
      ·intro h27
       refine .g 1 rfl<|?_
       refine .lp (fun n (x:Int × Int × Bool × (List Int) × Int × Bool × (List Int) × Int)=>expo_Exp_l4 y66 x69 a1 n x.1 x.2.1 x.2.2.1 x.2.2.2.1 x.2.2.2.2.1 x.2.2.2.2.2.1 x.2.2.2.2.2.2.1 x.2.2.2.2.2.2.2) (fun x=>([eI 1 a1,eP 4 1,eP 9 2,eP 11 3,eI 48 y66,eI 49 x.1],[(1,(.live 30 [(.bool false),(slK (kInt .u32) []),(.int .i64 0),(.bool false),(slK (kInt .u32) []),(.int .i64 0)])),(2,(.live 52 [(.int .i64 x.2.1),(.int .i64 x69.2.2)])),(3,(.live 30 [(.bool x.2.2.1),(slK (kInt .u32) x.2.2.2.1),(.int .i64 x.2.2.2.2.1),(.bool x.2.2.2.2.2.1),(slK (kInt .u32) x.2.2.2.2.2.2.1),(.int .i64 x.2.2.2.2.2.2.2)]))])) (0,x72.2,(((x72.1).Lo).M).Neg,(((x72.1).Lo).M).Mag,((x72.1).Lo).E,(((x72.1).Hi).M).Neg,(((x72.1).Hi).M).Mag,((x72.1).Hi).E) [(1,1),(2,2),(3,3)] rfl ?_
       rintro n4 ⟨y115,y116,y117,y118,y119,y120,y121,y122⟩
       try dsimp only
       rw [expo_Exp_l4]
       refine .g 6 rfl<|?_
       refine .cd rfl (fun _ _=>?_) fun _ _=>?_
       ·refine .g 8 rfl<|.bind fun x124 h39=>.st rfl (cl (CC.h h39) [2] [] [true] rfl (.p rfl<|.a kI<|.a kI<|.nil) (.p rfl (.i<|.i<|.nil) .nil) fnil (.cons (.v (.i<|.i<|.nil)) .nil) (ren_agg (K:=kI) _) (.turned .nil) rfl) rfl<|.g 8 rfl<|.ag ((IntKind.i64.wrap (y115+1)),x124.2,(((x124.1).Lo).M).Neg,(((x124.1).Lo).M).Mag,((x124.1).Lo).E,(((x124.1).Hi).M).Neg,(((x124.1).Hi).M).Mag,((x124.1).Hi).E) [(1,1),(2,2),(3,3)] rfl
       ·refine .g 4 rfl<|.jw (h27 (y116,y117,y118,y119,y120,y121,y122)) [(1,1),(2,2),(3,3)] rfl
    ·intro h40
     refine .cd rfl (fun _ _=>?_) fun _ _=>?_
     ·refine .g 6 rfl<|.jw (h40 (mx 0 (IntKind.i64.wrap (x64.1+3)))) [(0,0),(1,1)] rfl
     ·refine .g 1 rfl<|.jw (h40 0) [(0,0),(1,1)] rfl
  ·intro h43
   refine .g 3 rfl<|?_
   refine .gd 24 rfl (fun _=>?_) fun _=>?_
   ·refine .g 4 rfl<|.jw (h43 (decide (x64.1>11))) [(0,0),(1,1)] rfl
   ·refine .g 4 rfl<|.jw (h43 false) [(0,0),(1,1)] rfl
instance r04_Right_i (a0:ApiInt):PC (r04_Right a0) Tryz.prog 191 [(.agg (kN.enc a0))] (fun r=>(.bool r)):=pc func191 (by kernel_rfl) rfl fun E=>by
 unfold r04_Right
 refine .g 10 rfl<|.ln rfl rfl<|.g 4 rfl<|?_
 refine .cut (fun x:Bool=>(r04_Right_j1 x,[eB 2 x],[])) ?_ ?_
 ·rintro y2
  dsimp only [r04_Right_j1]
  refine .g 2 rfl<|.fi rfl rfl
 ·intro h7
  refine .g 4 rfl<|?_
  refine .gd 9 rfl (fun _=>?_) fun _=>?_
  ·refine .g 5 rfl<|?_
   refine .gd 14 rfl (fun _=>?_) fun _=>?_
   ·refine .g 14 rfl<|.jw (h7 true) [] rfl
   ·refine .g 3 rfl<|?_
    refine .gd 17 rfl (fun _=>?_) fun _=>?_
    ·refine .g 4 rfl<|.ix rfl rfl<|.g 6 rfl<|.jw (h7 ((a0.Mag.getD ((IntKind.i64.wrap ((a0.Mag.length:Int)-1)).toNat) (kInt .u32).z) != 0)) [] rfl
    ·refine .g 11 rfl<|.jw (h7 false) [] rfl
  ·refine .g 8 rfl<|?_
   refine .gd 17 rfl (fun _=>?_) fun _=>?_
   ·refine .g 4 rfl<|.ix rfl rfl<|.g 6 rfl<|.jw (h7 ((a0.Mag.getD ((IntKind.i64.wrap ((a0.Mag.length:Int)-1)).toNat) (kInt .u32).z) != 0)) [] rfl
   ·refine .g 11 rfl<|.jw (h7 false) [] rfl
instance r05_Right_i (a0:AD):PC (r05_Right a0) Tryz.prog 128 [(.agg (kD.enc a0))] (fun r=>(.bool r)):=pc func128 (by kernel_rfl) rfl fun E=>by
 unfold r05_Right
 refine .g 10 rfl<|.p0 rfl rfl fun x3 _=>.g 10 rfl<|?_
 refine .cd rfl (fun _ _=>?_) fun _ _=>?_
 ·refine .g 7 rfl<|.fi rfl rfl
 ·refine .g 8 rfl<|.ln rfl rfl<|.g 3 rfl<|?_
  refine .cd rfl (fun _ _=>?_) fun _ _=>?_
  ·refine .g 10 rfl<|.fi rfl rfl
  ·refine .g 3 rfl<|?_
   refine .cut (fun x:Bool=>(r05_Right_j1 x,[eB 2 x],[])) ?_ ?_
   ·rintro y4
    dsimp only [r05_Right_j1]
    refine .g 2 rfl<|.fi rfl rfl
   ·intro h9
    refine .g 4 rfl<|.ix rfl rfl<|.g 4 rfl<|?_
    refine .gd 24 rfl (fun _=>?_) fun _=>?_
    ·refine .g 5 rfl<|?_
     refine .gd 29 rfl (fun _=>?_) fun _=>?_
     ·refine .g 6 rfl<|.jw (h9 (decide (a0.E≤131072))) [] rfl
     ·refine .g 6 rfl<|.jw (h9 false) [] rfl
    ·refine .g 11 rfl<|.jw (h9 false) [] rfl
instance r01_Cmp_i (a0:List Int) (a1:List Int):PC (r01_Cmp a0 a1) Tryz.prog 205 [(slK (kInt .u32) a0),(slK (kInt .u32) a1)] (fun r=>(.int .i64 r)):=pc func205 (by kernel_rfl) rfl fun E=>by
 unfold r01_Cmp
 refine .g 9 rfl<|.ln rfl rfl<|.g 1 rfl<|.ln rfl rfl<|.g 5 rfl<|?_
 refine .cut (fun x:Unit=>(r01_Cmp_j1,[],[])) ?_ ?_
 ·rintro _
  dsimp only [r01_Cmp_j1]
  refine .g 7 rfl<|.fi rfl rfl
 ·intro h55
  refine .g 1 rfl<|?_
  refine .lp (fun n (x:Int)=>r01_Cmp_l2 a0 a1 n x) (fun x=>([eL 0 a0,eL 1 a1,eI 5 x],[])) (IntKind.i64.wrap ((mx (a0.length:Int) (a1.length:Int))-1)) [] rfl ?_
  rintro n2 y96
  try dsimp only
  rw [r01_Cmp_l2]
  refine .g 7 rfl<|?_
  refine .cd rfl (fun _ _=>?_) fun _ _=>?_
  ·refine .g 9 rfl<|.p0 rfl rfl fun x101 _=>.g 2 rfl<|.p0 rfl rfl fun x102 _=>.g 3 rfl<|?_
   refine .cd rfl (fun _ _=>?_) fun _ _=>?_
   ·refine .g 12 rfl<|.fi rfl rfl
   ·refine .g 6 rfl<|.p0 rfl rfl fun x103 _=>.g 2 rfl<|.p0 rfl rfl fun x104 _=>.g 3 rfl<|?_
    refine .cd rfl (fun _ _=>?_) fun _ _=>?_
    ·refine .g 11 rfl<|.fi rfl rfl
    ·refine .g 8 rfl<|.ag (IntKind.i64.wrap (y96-1)) [] rfl
  ·refine .g 4 rfl<|.jw (h55 ()) [] rfl
instance r04_Cmp_i (a0:ApiInt) (a1:ApiInt):PC (r04_Cmp a0 a1) Tryz.prog 154 [(.agg (kN.enc a0)),(.agg (kN.enc a1))] (fun r=>(.int .i64 r)):=pc func154 (by kernel_rfl) rfl fun E=>by
 unfold r04_Cmp
 refine .g 13 rfl<|.p0 rfl rfl fun x10 _=>.g 10 rfl<|.p0 rfl rfl fun x11 _=>.g 7 rfl<|?_
 refine .cut (fun x:Bool=>(r04_Cmp_j1 x10 x11 x,[eP 5 2,eP 6 3,eB 17 x],[(2,(.live 24 [(.bool ((x10).Neg)),(slK (kInt .u32) ((x10).Mag))])),(3,(.live 24 [(.bool ((x11).Neg)),(slK (kInt .u32) ((x11).Mag))]))])) ?_ ?_
 ·rintro y15
  dsimp only [r04_Cmp_j1]
  refine .g 1 rfl<|?_
  refine .cd rfl (fun _ _=>?_) fun _ _=>?_
  ·refine .g 8 rfl<|.fi rfl rfl
  ·refine .g 1 rfl<|?_
   refine .cut (fun x:Bool=>(r04_Cmp_j2 x10 x11 x,[eP 5 2,eP 6 3,eB 25 x],[(2,(.live 24 [(.bool ((x10).Neg)),(slK (kInt .u32) ((x10).Mag))])),(3,(.live 24 [(.bool ((x11).Neg)),(slK (kInt .u32) ((x11).Mag))]))])) ?_ ?_
   ·rintro y16
    dsimp only [r04_Cmp_j2]
    refine .g 1 rfl<|?_
    refine .cd rfl (fun _ _=>?_) fun _ _=>?_
    ·refine .g 8 rfl<|.fi rfl rfl
    ·refine .g 7 rfl<|?_
     refine .cd rfl (fun _ _=>?_) fun _ _=>?_
     ·refine .g 6 rfl<|.p0 rfl rfl fun x17 _=>.g 6 rfl<|.fi rfl rfl
     ·refine .g 9 rfl<|.p0 rfl rfl fun x18 _=>.g 4 rfl<|.fi rfl rfl
   ·intro h24
    refine .g 5 rfl<|?_
    refine .gd 29 rfl (fun _=>?_) fun _=>?_
    ·refine .g 5 rfl<|.jw (h24 (x11).Neg) [(2,2),(3,3)] rfl
    ·refine .g 5 rfl<|.jw (h24 false) [(2,2),(3,3)] rfl
 ·intro h26
  refine .g 4 rfl<|?_
  refine .gd 20 rfl (fun _=>?_) fun _=>?_
  ·refine .g 6 rfl<|.jw (h26 (!((x11).Neg))) [(2,2),(3,3)] rfl
  ·refine .g 6 rfl<|.jw (h26 false) [(2,2),(3,3)] rfl
instance r01_Bits_i (a0:List Int):PC (r01_Bits a0) Tryz.prog 134 [(slK (kInt .u32) a0)] (fun r=>(.int .i64 r)):=pc func134 (by kernel_rfl) rfl fun E=>by
 unfold r01_Bits
 refine .g 8 rfl<|.p0 rfl rfl fun x11 _=>.g 7 rfl<|.ln rfl rfl<|.g 3 rfl<|?_
 refine .cd rfl (fun _ _=>?_) fun _ _=>?_
 ·refine .g 7 rfl<|.fi rfl rfl
 ·refine .g 5 rfl<|.ln rfl rfl<|.g 10 rfl<|.ln rfl rfl<|.g 1 rfl<|.ix rfl rfl<|.g 4 rfl<|?_
  refine .cut (fun x:Int=>(r01_Bits_j1 x,[eI 4 x],[])) ?_ ?_
  ·rintro y16
   dsimp only [r01_Bits_j1]
   refine .g 8 rfl<|.fi rfl rfl
  ·intro h11
   refine .g 1 rfl<|?_
   refine .lp (fun n (x:Int × Int)=>r01_Bits_l2 n x.1 x.2) (fun x=>([eI 4 x.1,eW 5 x.2],[])) ((IntKind.i64.wrap (32*(IntKind.i64.wrap ((x11.length:Int)-1)))),(x11.getD ((IntKind.i64.wrap ((x11.length:Int)-1)).toNat) (kInt .u32).z)) [] rfl ?_
   rintro n2 ⟨y19,y20⟩
   try dsimp only
   rw [r01_Bits_l2]
   refine .g 7 rfl<|?_
   refine .cd rfl (fun _ _=>?_) fun _ _=>?_
   ·refine .g 16 rfl<|.ag ((IntKind.i64.wrap (y19+1)),(shrI .u32 y20 1)) [] rfl
   ·refine .g 4 rfl<|.jw (h11 y19) [] rfl
instance r05_size_i (a0:AD):PC (r05_size a0) Tryz.prog 135 [(.agg (kD.enc a0))] (fun r=>(.int .i64 r)):=pc func135 (by kernel_rfl) rfl fun E=>by
 unfold r05_size
 refine .g 13 rfl<|.p0 rfl rfl fun x2 _=>.g 2 rfl<|.dn (by kernel_rfl)<|.g 2 rfl<|.fi rfl rfl
end Go.Proofs.YtjfcghliglfapaaGreat.Gen
