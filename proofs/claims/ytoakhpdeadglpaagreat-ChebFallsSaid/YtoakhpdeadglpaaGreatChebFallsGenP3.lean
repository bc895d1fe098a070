/- Printed by geng.py: a call does what the plain function says. -/
import Derived.Test.YtoakhpdeadglpaaGreatChebFallsGenP2
set_option linter.unusedVariables false
set_option linter.unusedSimpArgs false
set_option maxRecDepth 4000
set_option synthInstance.maxSize 4000
set_option synthInstance.maxHeartbeats 400000
namespace Go.Proofs.YtoakhpdeadglpaaGreat.Gen
open Go Go.Abs Go.Proofs Go.Proofs.Tryz
instance konst_parts_3d9d_i (a0:Int) (a1:Int) (a2:Int) (a3:Int) (a4:Int) (a5:Int):CC (konst_parts_3d9d a0 a1 a2 a3 a4 a5) Tryz.prog 191 [(.ptr 0 0),(.sl [[(.fn 192 [] []),(.int .i64 a0),(.int .i64 a1)],[(.fn 192 [] []),(.int .i64 a2),(.int .i64 a3)]])] [(.live 53 [(.int .i64 a4),(.int .i64 a5)])] (fun r=>(slK kI r.1)) (fun r=>[(.live 53 [(.int .i64 r.2),(.int .i64 a5)])]):=cc func191 (by kernel_rfl) rfl fun E=>by
 unfold konst_parts_3d9d
 refine .g 14 rfl<|.sv (.int .i64 2) [] rfl (snd_len _ _ _ _ _ rfl underlying261 rfl rfl rfl rfl) rfl<|.g 3 rfl<|?_
 refine .cut (fun x:Int × (List AI)=>(konst_parts_3d9d_j1 a1 a5 a3 x.1 x.2,[eP 0 0,(1,some (.sl [[(.fn 192 [] []),(.int .i64 a0),(.int .i64 a1)],[(.fn 192 [] []),(.int .i64 a2),(.int .i64 a3)]])),(5,some (grA kI 1 x.2))],[(0,(.live 53 [(.int .i64 x.1),(.int .i64 a5)])),(1,(grV kI 30 x.2))])) ?_ ?_
 ·rintro ⟨y195,y196⟩
  dsimp only [konst_parts_3d9d_j1]
  refine .g 5 rfl<|.sv (.int .i64 2) [] rfl (snd_len _ _ _ _ _ rfl underlying261 rfl rfl rfl rfl) rfl<|.g 3 rfl<|?_
  refine .cut (fun x:Int × (List AI)=>(konst_parts_3d9d_j2 x.1 x.2,[(5,some (grA kI 1 x.2))],[(0,(.live 53 [(.int .i64 x.1),(.int .i64 a5)])),(1,(grV kI 30 x.2))])) ?_ ?_
  ·rintro ⟨y217,y218⟩
   dsimp only [konst_parts_3d9d_j2]
   refine .g 8 rfl<|?_
   refine .weak ?_ (fun a w h=>Conc.gr_still kI h 4 1 30 y218 rfl rfl)
   exact .fi rfl rfl
  ·intro h115
   refine .g 1 rfl<|?_
   refine .lo (fun n (x:Int × Int × (List AI))=>konst_parts_3d9d_l3 a1 a5 a3 n x.1 x.2.1 x.2.2) (fun x=>([eP 0 0,(5,some (grA kI 1 x.2.2)),(32,some (.sl [[(.fn 192 [] []),(.int .i64 a0),(.int .i64 a1)],[(.fn 192 [] []),(.int .i64 a2),(.int .i64 a3)]])),eI 33 2,eI 34 x.1],[(0,(.live 53 [(.int .i64 x.2.1),(.int .i64 a5)])),(1,(grV kI 30 x.2.2))])) (0,y195,y196) rfl (fun hE=>jn (m:=1) [(0,0),(1,1)] hE (.p rfl rfl<|.g rfl (ren_gr (K:=kI) (by rfl) y196)<|.g rfl (ren_slL (.cons (.cons (ren_fnL _ .nil .nil)<|.i<|.i<|.nil) (.cons (.cons (ren_fnL _ .nil .nil)<|.i<|.i<|.nil) .nil)))<|.i rfl<|.i rfl<|.nil) (.v rfl (.i<|.i<|.nil)<|.cons (.refl _) (renV_gr (K:=kI) 30 y196)<|.nil) rfl) ?_
   rintro n3 ⟨y230,y231,y232⟩
   try dsimp only
   rw [konst_parts_3d9d_l3]
   refine .g 6 rfl<|?_
   refine .cd rfl (fun _ _=>?_) fun _ _=>?_
   ·refine .g 3 rfl<|?_
    refine .cut (fun x:Int × (List AI)=>(konst_parts_3d9d_j4 (fun z0 z1 z2=>konst_parts_3d9d_l3 a1 a5 a3 n3 z0 z1 z2) y230 x.1 x.2,[eP 0 0,(5,some (.row 1 kI.sz 0 ((x.2).length))),(32,some (.sl [[(.fn 192 [] []),(.int .i64 a0),(.int .i64 a1)],[(.fn 192 [] []),(.int .i64 a2),(.int .i64 a3)]])),eI 33 2,eI 34 y230],[(0,(.live 53 [(.int .i64 x.1),(.int .i64 a5)])),(1,(rwK kI 30 x.2))])) ?_ ?_
    ·rintro ⟨y235,y236⟩
     dsimp only [konst_parts_3d9d_j4]
     refine .g 5 rfl<|.guard fun h158=>?_
     refine .weak ?_ (fun a w h=>Conc.gr_row kI h 5 1 30 y236 rfl rfl (by first | omega | (simp only [List.length_append,List.length_cons,List.length_set]; omega) | simp))
     exact .ao ((IntKind.i64.wrap (y230+1)),y235,y236) rfl fun hE=>jn (m:=1) [(0,0),(1,1)] hE (.p rfl rfl<|.g rfl (ren_gr (K:=kI) (by rfl) y236)<|.g rfl (ren_slL (.cons (.cons (ren_fnL _ .nil .nil)<|.i<|.i<|.nil) (.cons (.cons (ren_fnL _ .nil .nil)<|.i<|.i<|.nil) .nil)))<|.i rfl<|.i rfl<|.nil) (.v rfl (.i<|.i<|.nil)<|.cons (.refl _) (renV_gr (K:=kI) 30 y236)<|.nil) rfl
    ·intro h159
     refine .g 4 rfl<|?_
     refine .ite (fun h160=>?_) (fun h160=>?_)
     ·refine .sv (.iptr [(.fn 192 [] []),(.int .i64 a0),(.int .i64 a1)]) [] rfl (snd_index_at 0 _ _ _ _ _ _ _ _ rfl underlying261 si214 rfl rfl rfl rfl (by intro e he; simp at he; rcases he with rfl | rfl<;>rfl) rfl h160 rfl) rfl<|.g 6 rfl<|.guard fun h161=>?_
      refine .weak ?_ (fun a w h=>Conc.gr_open1 kI h 5 1 y232 (by omega) rfl)
      refine .weak ?_ (fun a w h=>Conc.gr_openV kI h 1 30 y232 (by omega) rfl)
      refine .g 6 rfl<|.guard fun h162=>?_
      obtain ⟨h1621,h1622⟩:=h162
      refine .sv (.rptr 1 kI.sz y230.toNat 0) [] rfl (idx_r (snd_index_r _ _ _ _ _ 1 0 ((y232).length) _ y230 rfl underlying153 si30 rfl rfl rfl rfl h1621 (by omega)) (Nat.zero_add _)) rfl<|.sv (.agg (kI.enc (⟨⟨((((y232).getD y230.toNat zAI).Lo).M),(((y232).getD y230.toNat zAI).Lo).E⟩,⟨((((y232).getD y230.toNat zAI).Hi).M),(((y232).getD y230.toNat zAI).Hi).E⟩⟩:AI))) [] rfl (snd_loadK_agg kI _ _ 1 y230.toNat 0 6 _ _ rfl ag30 rfl rfl rfl rfl (by first | omega | (simp only [List.length_set]; omega)) (by decide)) rfl<|.g 2 rfl<|.bind fun x237 h163=>.st rfl (cl (CC.h h163) [0] [] [true] rfl (.p rfl<|.a kI<|.i<|.nil) (.p rfl (.i<|.i<|.nil) .nil) fnil (.cons (.v (.i<|.i<|.nil)) .nil) (ren_agg (K:=kI) _) (.turned .nil) rfl) rfl<|.guard fun h164=>?_
      obtain ⟨h1641,h1642⟩:=h164
      refine .sv (.rptr 1 kI.sz y230.toNat 0) [] rfl (idx_r (snd_index_r _ _ _ _ _ 1 0 ((y232).length) _ y230 rfl underlying153 si30 rfl rfl rfl rfl h1641 (by omega)) (Nat.zero_add _)) rfl<|.sm [(1,(rwK kI 30 ((y232).set y230.toNat (⟨⟨(((x237.1).Lo).M),((x237.1).Lo).E⟩,⟨(((x237.1).Hi).M),((x237.1).Hi).E⟩⟩:AI))))] rfl (snd_storeK_agg kI _ _ _ 1 y230.toNat _ _ (⟨⟨(((x237.1).Lo).M),((x237.1).Lo).E⟩,⟨(((x237.1).Hi).M),((x237.1).Hi).E⟩⟩:AI) rfl rfl ag30 rfl rfl rfl rfl (by first | omega | (simp only [List.length_set]; omega))) rfl<|.dn (by kernel_rfl)<|?_
      refine .weak ?_ (fun a w h=>Conc.relen h 5 ((((y232).set y230.toNat (⟨⟨(((x237.1).Lo).M),((x237.1).Lo).E⟩,⟨(((x237.1).Hi).M),((x237.1).Hi).E⟩⟩:AI))).length) rfl List.length_set.symm)
      refine .g 1 rfl<|.jw (h159 (x237.2,((y232).set y230.toNat (⟨⟨(((x237.1).Lo).M),((x237.1).Lo).E⟩,⟨(((x237.1).Hi).M),((x237.1).Hi).E⟩⟩:AI)))) [(0,0),(1,1)] rfl
     ·refine .ite (fun h165=>?_) (fun h165=>?_)
      ·refine .sv (.iptr [(.fn 192 [] []),(.int .i64 a2),(.int .i64 a3)]) [] rfl (snd_index_at 1 _ _ _ _ _ _ _ _ rfl underlying261 si214 rfl rfl rfl rfl (by intro e he; simp at he; rcases he with rfl | rfl<;>rfl) rfl h165 rfl) rfl<|.g 6 rfl<|.guard fun h166=>?_
       refine .weak ?_ (fun a w h=>Conc.gr_open1 kI h 5 1 y232 (by omega) rfl)
       refine .weak ?_ (fun a w h=>Conc.gr_openV kI h 1 30 y232 (by omega) rfl)
       refine .g 6 rfl<|.guard fun h167=>?_
       obtain ⟨h1671,h1672⟩:=h167
       refine .sv (.rptr 1 kI.sz y230.toNat 0) [] rfl (idx_r (snd_index_r _ _ _ _ _ 1 0 ((y232).length) _ y230 rfl underlying153 si30 rfl rfl rfl rfl h1671 (by omega)) (Nat.zero_add _)) rfl<|.sv (.agg (kI.enc (⟨⟨((((y232).getD y230.toNat zAI).Lo).M),(((y232).getD y230.toNat zAI).Lo).E⟩,⟨((((y232).getD y230.toNat zAI).Hi).M),(((y232).getD y230.toNat zAI).Hi).E⟩⟩:AI))) [] rfl (snd_loadK_agg kI _ _ 1 y230.toNat 0 6 _ _ rfl ag30 rfl rfl rfl rfl (by first | omega | (simp only [List.length_set]; omega)) (by decide)) rfl<|.g 2 rfl<|.bind fun x238 h168=>.st rfl (cl (CC.h h168) [0] [] [true] rfl (.p rfl<|.a kI<|.i<|.nil) (.p rfl (.i<|.i<|.nil) .nil) fnil (.cons (.v (.i<|.i<|.nil)) .nil) (ren_agg (K:=kI) _) (.turned .nil) rfl) rfl<|.guard fun h169=>?_
       obtain ⟨h1691,h1692⟩:=h169
       refine .sv (.rptr 1 kI.sz y230.toNat 0) [] rfl (idx_r (snd_index_r _ _ _ _ _ 1 0 ((y232).length) _ y230 rfl underlying153 si30 rfl rfl rfl rfl h1691 (by omega)) (Nat.zero_add _)) rfl<|.sm [(1,(rwK kI 30 ((y232).set y230.toNat (⟨⟨(((x238.1).Lo).M),((x238.1).Lo).E⟩,⟨(((x238.1).Hi).M),((x238.1).Hi).E⟩⟩:AI))))] rfl (snd_storeK_agg kI _ _ _ 1 y230.toNat _ _ (⟨⟨(((x238.1).Lo).M),((x238.1).Lo).E⟩,⟨(((x238.1).Hi).M),((x238.1).Hi).E⟩⟩:AI) rfl rfl ag30 rfl rfl rfl rfl (by first | omega | (simp only [List.length_set]; omega))) rfl<|.dn (by kernel_rfl)<|?_
       refine .weak ?_ (fun a w h=>Conc.relen h 5 ((((y232).set y230.toNat (⟨⟨(((x238.1).Lo).M),((x238.1).Lo).E⟩,⟨(((x238.1).Hi).M),((x238.1).Hi).E⟩⟩:AI))).length) rfl List.length_set.symm)
       refine .g 1 rfl<|.jw (h159 (x238.2,((y232).set y230.toNat (⟨⟨(((x238.1).Lo).M),((x238.1).Lo).E⟩,⟨(((x238.1).Hi).M),((x238.1).Hi).E⟩⟩:AI)))) [(0,0),(1,1)] rfl
      ·exact .no
   ·refine .g 4 rfl<|.jo (h115 (y231,y232)) rfl fun hE=>jn (m:=1) [(0,0),(1,1)] hE (.g rfl (ren_gr (K:=kI) (by rfl) y232)<|.nil) (.v rfl (.i<|.i<|.nil)<|.cons (.refl _) (renV_gr (K:=kI) 30 y232)<|.nil) rfl
 ·intro h170
  refine .g 1 rfl<|?_
  refine .weak ?_ (fun a w h=>Conc.gr_nil kI h 5 1 30 rfl)
  refine .lo (fun n (x:Int × Int × (List AI))=>konst_parts_3d9d_l5 a5 a0 a2 a1 a3 n x.1 x.2.1 x.2.2) (fun x=>([eP 0 0,(1,some (.sl [[(.fn 192 [] []),(.int .i64 a0),(.int .i64 a1)],[(.fn 192 [] []),(.int .i64 a2),(.int .i64 a3)]])),(5,some (grA kI 1 x.2.2)),(10,some (.sl [[(.fn 192 [] []),(.int .i64 a0),(.int .i64 a1)],[(.fn 192 [] []),(.int .i64 a2),(.int .i64 a3)]])),eI 11 2,eI 12 x.1],[(0,(.live 53 [(.int .i64 x.2.1),(.int .i64 a5)])),(1,(grV kI 30 x.2.2))])) (0,a4,[]) rfl (fun hE=>jn (m:=1) [(0,0),(1,1)] hE (.p rfl rfl<|.g rfl (ren_slL (.cons (.cons (ren_fnL _ .nil .nil)<|.i<|.i<|.nil) (.cons (.cons (ren_fnL _ .nil .nil)<|.i<|.i<|.nil) .nil)))<|.g rfl (ren_gr (K:=kI) (by rfl) [])<|.g rfl (ren_slL (.cons (.cons (ren_fnL _ .nil .nil)<|.i<|.i<|.nil) (.cons (.cons (ren_fnL _ .nil .nil)<|.i<|.i<|.nil) .nil)))<|.i rfl<|.i rfl<|.nil) (.v rfl (.i<|.i<|.nil)<|.cons (.refl _) (renV_gr (K:=kI) 30 [])<|.nil) rfl) ?_
  rintro n5 ⟨y268,y269,y270⟩
  try dsimp only
  rw [konst_parts_3d9d_l5]
  refine .g 6 rfl<|?_
  refine .cd rfl (fun _ _=>?_) fun _ _=>?_
  ·refine .g 3 rfl<|?_
   refine .cut (fun x:Int × (List AI)=>(konst_parts_3d9d_j6 (fun z0 z1 z2=>konst_parts_3d9d_l5 a5 a0 a2 a1 a3 n5 z0 z1 z2) y268 x.1 x.2,[eP 0 0,(1,some (.sl [[(.fn 192 [] []),(.int .i64 a0),(.int .i64 a1)],[(.fn 192 [] []),(.int .i64 a2),(.int .i64 a3)]])),(5,some (.row 3 kI.sz 0 ((x.2).length))),(10,some (.sl [[(.fn 192 [] []),(.int .i64 a0),(.int .i64 a1)],[(.fn 192 [] []),(.int .i64 a2),(.int .i64 a3)]])),eI 11 2,eI 12 y268],[(0,(.live 53 [(.int .i64 x.1),(.int .i64 a5)])),(3,(rwK kI 30 x.2))])) ?_ ?_
   ·rintro ⟨y279,y280⟩
    dsimp only [konst_parts_3d9d_j6]
    refine .g 5 rfl<|.guard fun h221=>?_
    refine .weak ?_ (fun a w h=>Conc.gr_row kI h 5 3 30 y280 rfl rfl (by first | omega | (simp only [List.length_append,List.length_cons,List.length_set]; omega) | simp))
    exact .ao ((IntKind.i64.wrap (y268+1)),y279,y280) rfl fun hE=>jn (m:=1) [(0,0),(3,1)] hE (.p rfl rfl<|.g rfl (ren_slL (.cons (.cons (ren_fnL _ .nil .nil)<|.i<|.i<|.nil) (.cons (.cons (ren_fnL _ .nil .nil)<|.i<|.i<|.nil) .nil)))<|.g rfl (ren_gr (K:=kI) (by rfl) y280)<|.g rfl (ren_slL (.cons (.cons (ren_fnL _ .nil .nil)<|.i<|.i<|.nil) (.cons (.cons (ren_fnL _ .nil .nil)<|.i<|.i<|.nil) .nil)))<|.i rfl<|.i rfl<|.nil) (.v rfl (.i<|.i<|.nil)<|.cons (.refl _) (renV_gr (K:=kI) 30 y280)<|.nil) rfl
   ·intro h222
    refine .g 3 rfl<|?_
    refine .ite (fun h223=>?_) (fun h223=>?_)
    ·refine .sv (.iptr [(.fn 192 [] []),(.int .i64 a0),(.int .i64 a1)]) [] rfl (snd_index_at 0 _ _ _ _ _ _ _ _ rfl underlying261 si214 rfl rfl rfl rfl (by intro e he; simp at he; rcases he with rfl | rfl<;>rfl) rfl h223 rfl) rfl<|.g 12 rfl<|.bind fun x281 h224=>.st rfl (cl (CC.h h224) [0] [] [true] rfl (.p rfl<|.i<|.nil) (.p rfl (.i<|.i<|.nil) .nil) fnil (.cons (.v (.i<|.i<|.nil)) .nil) (ren_agg (K:=kI) _) (.turned .nil) rfl) rfl<|.g 3 rfl<|.bind fun x282 h225=>.st rfl (cl (CC.h h225) [0] [] [true] rfl (.p rfl<|.i<|.nil) (.p rfl (.i<|.i<|.nil) .nil) fnil (.cons (.v (.i<|.i<|.nil)) .nil) (ren_agg (K:=kI) _) (.turned .nil) rfl) rfl<|.bind fun x283 h226=>.st rfl (cl (CC.h h226) [0] [] [true] rfl (.p rfl<|.a kI<|.a kI<|.nil) (.p rfl (.i<|.i<|.nil) .nil) fnil (.cons (.v (.i<|.i<|.nil)) .nil) (ren_agg (K:=kI) _) (.turned .nil) rfl) rfl<|.bind fun x284 h227=>.st rfl (cl (CC.h h227) [0] [] [true] rfl (.p rfl<|.a kI<|.nil) (.p rfl (.i<|.i<|.nil) .nil) fnil (.cons (.v (.i<|.i<|.nil)) .nil) (ren_agg (K:=kI) _) (.turned .nil) rfl) rfl<|.st rfl (bs kI [(⟨⟨(((x284.1).Lo).M),((x284.1).Lo).E⟩,⟨(((x284.1).Hi).M),((x284.1).Hi).E⟩⟩:AI)] rfl rfl) rfl<|.guard fun h228=>.sv (.row 3 kI.sz 0 (((y270++[(⟨⟨(((x284.1).Lo).M),((x284.1).Lo).E⟩,⟨(((x284.1).Hi).M),((x284.1).Hi).E⟩⟩:AI)])).length)) [(3,(rwK kI 30 (y270++[(⟨⟨(((x284.1).Lo).M),((x284.1).Lo).E⟩,⟨(((x284.1).Hi).M),((x284.1).Hi).E⟩⟩:AI)]))),(1,.dead)] rfl (snd_appendK_gr kI _ _ _ _ _ 1 3 y270 [(⟨⟨(((x284.1).Lo).M),((x284.1).Lo).E⟩,⟨(((x284.1).Hi).M),((x284.1).Hi).E⟩⟩:AI)] rfl underlying153 ze30 sb30 rfl rfl rfl rfl rfl rfl rfl h228) rfl<|?_
     refine .g 1 rfl<|.dn (by kernel_rfl)<|.g 1 rfl<|.jw (h222 (x284.2,(y270++[(⟨⟨(((x284.1).Lo).M),((x284.1).Lo).E⟩,⟨(((x284.1).Hi).M),((x284.1).Hi).E⟩⟩:AI)]))) [(0,0),(3,3)] rfl
    ·refine .ite (fun h229=>?_) (fun h229=>?_)
     ·refine .sv (.iptr [(.fn 192 [] []),(.int .i64 a2),(.int .i64 a3)]) [] rfl (snd_index_at 1 _ _ _ _ _ _ _ _ rfl underlying261 si214 rfl rfl rfl rfl (by intro e he; simp at he; rcases he with rfl | rfl<;>rfl) rfl h229 rfl) rfl<|.g 12 rfl<|.bind fun x285 h230=>.st rfl (cl (CC.h h230) [0] [] [true] rfl (.p rfl<|.i<|.nil) (.p rfl (.i<|.i<|.nil) .nil) fnil (.cons (.v (.i<|.i<|.nil)) .nil) (ren_agg (K:=kI) _) (.turned .nil) rfl) rfl<|.g 3 rfl<|.bind fun x286 h231=>.st rfl (cl (CC.h h231) [0] [] [true] rfl (.p rfl<|.i<|.nil) (.p rfl (.i<|.i<|.nil) .nil) fnil (.cons (.v (.i<|.i<|.nil)) .nil) (ren_agg (K:=kI) _) (.turned .nil) rfl) rfl<|.bind fun x287 h232=>.st rfl (cl (CC.h h232) [0] [] [true] rfl (.p rfl<|.a kI<|.a kI<|.nil) (.p rfl (.i<|.i<|.nil) .nil) fnil (.cons (.v (.i<|.i<|.nil)) .nil) (ren_agg (K:=kI) _) (.turned .nil) rfl) rfl<|.bind fun x288 h233=>.st rfl (cl (CC.h h233) [0] [] [true] rfl (.p rfl<|.a kI<|.nil) (.p rfl (.i<|.i<|.nil) .nil) fnil (.cons (.v (.i<|.i<|.nil)) .nil) (ren_agg (K:=kI) _) (.turned .nil) rfl) rfl<|.st rfl (bs kI [(⟨⟨(((x288.1).Lo).M),((x288.1).Lo).E⟩,⟨(((x288.1).Hi).M),((x288.1).Hi).E⟩⟩:AI)] rfl rfl) rfl<|.guard fun h234=>.sv (.row 3 kI.sz 0 (((y270++[(⟨⟨(((x288.1).Lo).M),((x288.1).Lo).E⟩,⟨(((x288.1).Hi).M),((x288.1).Hi).E⟩⟩:AI)])).length)) [(3,(rwK kI 30 (y270++[(⟨⟨(((x288.1).Lo).M),((x288.1).Lo).E⟩,⟨(((x288.1).Hi).M),((x288.1).Hi).E⟩⟩:AI)]))),(1,.dead)] rfl (snd_appendK_gr kI _ _ _ _ _ 1 3 y270 [(⟨⟨(((x288.1).Lo).M),((x288.1).Lo).E⟩,⟨(((x288.1).Hi).M),((x288.1).Hi).E⟩⟩:AI)] rfl underlying153 ze30 sb30 rfl rfl rfl rfl rfl rfl rfl h234) rfl<|?_
      refine .g 1 rfl<|.dn (by kernel_rfl)<|.g 1 rfl<|.jw (h222 (x288.2,(y270++[(⟨⟨(((x288.1).Lo).M),((x288.1).Lo).E⟩,⟨(((x288.1).Hi).M),((x288.1).Hi).E⟩⟩:AI)]))) [(0,0),(3,3)] rfl
     ·exact .no
  ·refine .g 4 rfl<|.jo (h170 (y269,y270)) rfl fun hE=>jn (m:=1) [(0,0),(1,1)] hE (.p rfl rfl<|.g rfl (ren_slL (.cons (.cons (ren_fnL _ .nil .nil)<|.i<|.i<|.nil) (.cons (.cons (ren_fnL _ .nil .nil)<|.i<|.i<|.nil) .nil)))<|.g rfl (ren_gr (K:=kI) (by rfl) y270)<|.nil) (.v rfl (.i<|.i<|.nil)<|.cons (.refl _) (renV_gr (K:=kI) 30 y270)<|.nil) rfl
instance cv_Sub_i (a0:AI) (a1:AI) (a2:Int) (a3:Int):CC (cv_Sub a0 a1 a2 a3) Tryz.prog 34 [(.ptr 0 0),(.agg (kI.enc a0)),(.agg (kI.enc a1))] [(.live 53 [(.int .i64 a2),(.int .i64 a3)])] (fun r=>(.agg (kI.enc (⟨⟨(((r.1).Lo).M),((r.1).Lo).E⟩,⟨(((r.1).Hi).M),((r.1).Hi).E⟩⟩:AI)))) (fun r=>[(.live 53 [(.int .i64 r.2),(.int .i64 a3)])]):=cc func34 (by kernel_rfl) rfl fun E=>by
 unfold cv_Sub
 refine .g 13 rfl<|.bind fun x3 h1=>.st rfl (cl (CC.h h1) [0] [] [true] rfl (.p rfl<|.a kI<|.nil) (.p rfl (.i<|.i<|.nil) .nil) fnil (.cons (.v (.i<|.i<|.nil)) .nil) (ren_agg (K:=kI) _) (.turned .nil) rfl) rfl<|.bind fun x4 h2=>.st rfl (cl (CC.h h2) [0] [] [true] rfl (.p rfl<|.a kI<|.a kI<|.nil) (.p rfl (.i<|.i<|.nil) .nil) fnil (.cons (.v (.i<|.i<|.nil)) .nil) (ren_agg (K:=kI) _) (.turned .nil) rfl) rfl<|.g 1 rfl<|.dn (by kernel_rfl)<|.g 2 rfl<|.fi rfl rfl
instance konst_Pi_i (a0:Int) (a1:Int):CC (konst_Pi a0 a1) Tryz.prog 99 [(.ptr 0 0)] [(.live 53 [(.int .i64 a0),(.int .i64 a1)])] (fun r=>(.agg (kI.enc (⟨⟨(((r.1).Lo).M),((r.1).Lo).E⟩,⟨(((r.1).Hi).M),((r.1).Hi).E⟩⟩:AI)))) (fun r=>[(.live 53 [(.int .i64 r.2),(.int .i64 a1)])]):=cc func99 (by kernel_rfl) rfl fun E=>by
 unfold konst_Pi
 refine .g 10 rfl<|.sv (.sl [[(.fn 192 [] []),(.int .i64 5),(.int .i64 4)],[(.fn 192 [] []),(.int .i64 239),(.int .i64 2)]]) [] rfl (snd_buildSlice _ _ _ 3 _ _ [(0,(.agg [(.fn 192 [] []),(.int .i64 5),(.int .i64 4)])),(1,(.agg [(.fn 192 [] []),(.int .i64 239),(.int .i64 2)]))] [[(.fn 192 [] []),(.int .i64 5),(.int .i64 4)],[(.fn 192 [] []),(.int .i64 239),(.int .i64 2)]] rfl underlying261 ze214 si214 rfl rfl rfl (by decide) (by decide) (by decide) rfl rfl (by intro e he; simp at he; rcases he with rfl | rfl<;>rfl) rfl) rfl<|.bind fun x3 h1=>.st rfl (cl (CC.h h1) [0] [] [true] rfl (.p rfl<|.cons (ren_slL (.cons (.cons (ren_fnL _ .nil .nil)<|.i<|.i<|.nil) (.cons (.cons (ren_fnL _ .nil .nil)<|.i<|.i<|.nil) .nil)))<|.nil) (.p rfl (.i<|.i<|.nil) .nil) fnil (.cons (.v (.i<|.i<|.nil)) .nil) (ren_sl _) (.turned .nil) rfl) rfl<|.g 7 rfl<|.ix rfl rfl<|.g 2 rfl<|.ix rfl rfl<|.g 1 rfl<|.bind fun x4 h4=>.st rfl (cl (CC.h h4) [0] [] [true] rfl (.p rfl<|.a kI<|.a kI<|.nil) (.p rfl (.i<|.i<|.nil) .nil) fnil (.cons (.v (.i<|.i<|.nil)) .nil) (ren_agg (K:=kI) _) (.turned .nil) rfl) rfl<|.g 1 rfl<|.dn (by kernel_rfl)<|.g 2 rfl<|.fi rfl rfl
instance cv_Mid_i (a0:AI) (a1:Int) (a2:Int):CC (cv_Mid a0 a1 a2) Tryz.prog 97 [(.ptr 0 0),(.agg (kI.enc a0))] [(.live 53 [(.int .i64 a1),(.int .i64 a2)])] (fun r=>(.agg (kD.enc (⟨((r.1).M),(r.1).E⟩:AD)))) (fun r=>[(.live 53 [(.int .i64 r.2),(.int .i64 a2)])]):=cc func97 (by kernel_rfl) rfl fun E=>by
 unfold cv_Mid
 refine .g 11 rfl<|.st rfl (bs kI [a0] rfl rfl) rfl<|.bind fun x6 h1=>.st rfl (cl (CC.h h1) [0] [] [true] rfl (.p rfl<|.l<|.nil) (.p rfl (.i<|.i<|.nil) .nil) fnil (.cons (.v (.i<|.i<|.nil)) .nil) (.bool _) (.turned .nil) rfl) rfl<|.g 3 rfl<|?_
 refine .cd rfl (fun _ _=>?_) fun _ _=>?_
 ·refine .g 8 rfl<|.fi rfl rfl
 ·refine .g 9 rfl<|.bind fun x7 h4=>.st rfl (cl (CC.h h4) [0] [] [true] rfl (.p rfl<|.a kD<|.a kD<|.nil) (.p rfl (.i<|.i<|.nil) .nil) fnil (.cons (.v (.i<|.i<|.nil)) .nil) (ren_agg (K:=kD) _) (.turned .nil) rfl) rfl<|.g 15 rfl<|?_
  refine .cd rfl (fun _ _=>?_) fun _ _=>?_
  ·refine .g 8 rfl<|.fi rfl rfl
  ·refine .g 7 rfl<|.p0 rfl rfl fun x8 _=>.g 2 rfl<|.bind fun x9 h8=>.st rfl (cl (CC.h h8) [0] [] [true] rfl (.p rfl<|.a kD<|.i<|.nil) (.p rfl (.i<|.i<|.nil) .nil) fnil (.cons (.v (.i<|.i<|.nil)) .nil) (ren_agg (K:=kD) _) (.turned .nil) rfl) rfl<|.bind fun x10 h9=>.st rfl (cl (CC.h h9) [0] [] [true] rfl (.p rfl<|.a kD<|.nil) (.p rfl (.i<|.i<|.nil) .nil) fnil (.cons (.v (.i<|.i<|.nil)) .nil) (ren_agg (K:=kD) _) (.turned .nil) rfl) rfl<|.g 4 rfl<|.fi rfl rfl
instance trig_fits_i (a0:AD) (a1:Int):PC (trig_fits a0 a1) Tryz.prog 232 [(.agg (kD.enc a0)),(.int .i64 a1)] (fun r=>(.bool r)):=pc func232 (by kernel_rfl) rfl fun E=>by
 unfold trig_fits
 refine .g 7 rfl<|?_
 refine .cut (fun x:Bool=>(trig_fits_j1 x,[eB 4 x],[])) ?_ ?_
 ·rintro y8
  dsimp only [trig_fits_j1]
  refine .g 2 rfl<|.fi rfl rfl
 ·intro h6
  refine .g 4 rfl<|?_
  refine .gd 7 rfl (fun _=>?_) fun _=>?_
  ·refine .g 4 rfl<|?_
   refine .gd 11 rfl (fun _=>?_) fun _=>?_
   ·refine .g 1 rfl<|.p0 rfl rfl fun x9 _=>.g 2 rfl<|?_
    refine .gd 15 rfl (fun _=>?_) fun _=>?_
    ·refine .g 3 rfl<|.p0 rfl rfl fun x10 _=>.g 4 rfl<|.jw (h6 (decide (x10≤400))) [] rfl
    ·refine .g 8 rfl<|.jw (h6 false) [] rfl
   ·refine .g 12 rfl<|.jw (h6 false) [] rfl
  ·refine .g 16 rfl<|.jw (h6 false) [] rfl
instance dyad_Size_i (a0:AD):PC (dyad_Size a0) Tryz.prog 60 [(.agg (kD.enc a0))] (fun r=>(.tup [(.int .i64 r.1),(.bool r.2)])):=pc func60 (by kernel_rfl) rfl fun E=>by
 unfold dyad_Size
 refine .g 9 rfl<|?_
 refine .cut (fun x:Bool=>(dyad_Size_j1 a0 x,[eP 1 0,eB 10 x],[(0,(.live 26 [(.bool a0.M.Neg),(slK (kInt .u32) a0.M.Mag),(.int .i64 a0.E)]))])) ?_ ?_
 ·rintro y9
  dsimp only [dyad_Size_j1]
  refine .g 1 rfl<|?_
  refine .cd rfl (fun _ _=>?_) fun _ _=>?_
  ·refine .g 8 rfl<|.fi rfl rfl
  ·refine .g 5 rfl<|.p0 rfl rfl fun x10 _=>.g 5 rfl<|.fi rfl rfl
 ·intro h7
  refine .g 2 rfl<|.p0 rfl rfl fun x11 _=>.g 2 rfl<|?_
  refine .gd 7 rfl (fun _=>?_) fun _=>?_
  ·refine .g 4 rfl<|.jw (h7 true) [(0,0)] rfl
  ·refine .g 1 rfl<|.p0 rfl rfl fun x12 _=>.g 2 rfl<|.jw (h7 x12) [(0,0)] rfl
instance zint_Shift_i (a0:ApiInt) (a1:Int):PC (zint_Shift a0 a1) Tryz.prog 347 [(.agg (kN.enc a0)),(.int .i64 a1)] (fun r=>(.tup [(.agg (kN.enc (r.1))),(.bool r.2)])):=pc func347 (by kernel_rfl) rfl fun E=>by
 unfold zint_Shift
 refine .g 9 rfl<|?_
 refine .cut (fun x:Bool=>(zint_Shift_j1 a0 a1 x,[eI 1 a1,eP 2 0,eP 4 1,eB 17 x],[(0,(.live 24 [(.bool a0.Neg),(slK (kInt .u32) a0.Mag)])),(1,(.live 24 [(.bool false),(slK (kInt .u32) [])]))])) ?_ ?_
 ·rintro y18
  dsimp only [zint_Shift_j1]
  refine .g 1 rfl<|?_
  refine .cd rfl (fun _ _=>?_) fun _ _=>?_
  ·refine .g 9 rfl<|.fi rfl rfl
  ·refine .g 5 rfl<|.p0 rfl rfl fun x19 _=>.g 11 rfl<|?_
   refine .cd rfl (fun _ _=>?_) fun _ _=>?_
   ·refine .g 6 rfl<|.p0 rfl rfl fun x20 _=>.g 12 rfl<|.p0 rfl rfl fun x21 _=>.g 6 rfl<|.fi rfl rfl
   ·refine .g 17 rfl<|?_
    refine .cut (fun x:(List Int)=>(zint_Shift_j2 a1 x19 x,[eI 1 a1,eP 4 1,eP 6 2,eL 9 x],[(1,(.live 24 [(.bool false),(slK (kInt .u32) [])])),(2,(.live 197 [(slK (kInt .u32) (((x19).size).mag)),(.bool ((x19).neg))]))])) ?_ ?_
    ·rintro y27
     dsimp only [zint_Shift_j2]
     refine .g 8 rfl<|.p0 rfl rfl fun x28 _=>.p0 rfl rfl fun x29 _=>.g 2 rfl<|.dn (by kernel_rfl)<|.g 2 rfl<|.fi rfl rfl
    ·intro h18
     refine .cd rfl (fun _ _=>?_) fun _ _=>?_
     ·refine .g 2 rfl<|.p0 rfl rfl fun x30 _=>.g 2 rfl<|.p0 rfl rfl fun x31 _=>.g 10 rfl<|.p0 rfl rfl fun x32 _=>.p0 rfl rfl fun x33 _=>.g 9 rfl<|.p0 rfl rfl fun x34 _=>.g 2 rfl<|.jw (h18 x34) [(1,1),(2,2)] rfl
     ·refine .g 1 rfl<|.jw (h18 ((x19).size).mag) [(1,1),(2,2)] rfl
 ·intro h26
  refine .g 4 rfl<|?_
  refine .gd 14 rfl (fun _=>?_) fun _=>?_
  ·refine .g 4 rfl<|.jw (h26 true) [(0,0),(1,1)] rfl
  ·refine .g 4 rfl<|.jw (h26 (decide (a1>100000))) [(0,0),(1,1)] rfl
instance dyad_Floor_i (a0:AD):PC (dyad_Floor a0) Tryz.prog 314 [(.agg (kD.enc a0))] (fun r=>(.tup [(.agg (kN.enc (r.1))),(.int .i64 r.2)])):=pc func314 (by kernel_rfl) rfl fun E=>by
 unfold dyad_Floor
 refine .g 17 rfl<|?_
 refine .cut (fun x:Bool × Int=>(dyad_Floor_j1 a0 x.1 x.2,[eP 1 0,eP 2 1,eP 4 2,eB 23 x.1],[(0,(.live 26 [(.bool a0.M.Neg),(slK (kInt .u32) a0.M.Mag),(.int .i64 a0.E)])),(1,(.live 24 [(.bool false),(slK (kInt .u32) [])])),(2,(.live 174 [(.int .i64 x.2),(.bool a0.M.Neg),(slK (kInt .u32) a0.M.Mag),(.int .i64 a0.E)]))])) ?_ ?_
 ·rintro ⟨y40,y41⟩
  dsimp only [dyad_Floor_j1]
  refine .g 1 rfl<|?_
  refine .cd rfl (fun _ _=>?_) fun _ _=>?_
  ·refine .g 10 rfl<|.dn (by kernel_rfl)<|.g 3 rfl<|.fi rfl rfl
  ·refine .g 10 rfl<|?_
   refine .cd rfl (fun _ _=>?_) fun _ _=>?_
   ·refine .g 10 rfl<|.p0 rfl rfl fun x42 _=>.p0 rfl rfl fun x43 _=>.g 2 rfl<|.dn (by kernel_rfl)<|.g 3 rfl<|.fi rfl rfl
   ·refine .g 19 rfl<|?_
    refine .cut (fun x:Bool × (List Int)=>(dyad_Floor_j2 x.1 x.2,[eP 2 1,eP 5 3],[(1,(.live 24 [(.bool false),(slK (kInt .u32) [])])),(3,(.live 24 [(.bool x.1),(slK (kInt .u32) x.2)]))])) ?_ ?_
    ·rintro ⟨y56,y57⟩
     dsimp only [dyad_Floor_j2]
     refine .g 9 rfl<|.fi rfl rfl
    ·intro h23
     refine .g 1 rfl<|?_
     refine .lp (fun n (x:Int × Bool × (List Int))=>dyad_Floor_l3 n x.1 x.2.1 x.2.2) (fun x=>([eP 2 1,eP 5 3,eI 6 x.1],[(1,(.live 24 [(.bool false),(slK (kInt .u32) [])])),(3,(.live 24 [(.bool x.2.1),(slK (kInt .u32) x.2.2)]))])) ((IntKind.i64.wrap (0-a0.E)),a0.M.Neg,a0.M.Mag) [(1,1),(3,3)] rfl ?_
     rintro n3 ⟨y65,y66,y67⟩
     try dsimp only
     rw [dyad_Floor_l3]
     refine .g 7 rfl<|?_
     refine .cd rfl (fun _ _=>?_) fun _ _=>?_
     ·refine .g 9 rfl<|.p0 rfl rfl fun x69 _=>.g 12 rfl<|.ag ((IntKind.i64.wrap (y65-100000)),(x69.1).Neg,(x69.1).Mag) [(1,1),(3,3)] rfl
     ·refine .g 4 rfl<|.jw (h23 (y66,y67)) [(1,1),(3,3)] rfl
 ·intro h36
  refine .g 3 rfl<|.st rfl (bs kD [a0] rfl rfl) rfl<|.bind fun x70 h37=>.st rfl (cl (CC.h h37) [2] [] [true] rfl (.p rfl<|.l<|.nil) (.p rfl (.i<|.b<|.l<|.i<|.nil) .nil) fnil (.cons (.v (.i<|.b<|.l<|.i<|.nil)) .nil) (.bool _) (.turned .nil) rfl) rfl<|.g 2 rfl<|?_
  refine .gd 15 rfl (fun _=>?_) fun _=>?_
  ·refine .g 8 rfl<|.dn (by kernel_rfl)<|.jw (h36 (true,x70.2)) [(0,0),(1,1),(2,2)] rfl
  ·refine .g 4 rfl<|.p0 rfl rfl fun x71 _=>.bind fun x72 h40=>.st rfl (cl (CC.h h40) [2] [] [true] rfl (.p rfl<|.b<|.i<|.nil) (.p rfl (.i<|.b<|.l<|.i<|.nil) .nil) fnil (.cons (.v (.i<|.b<|.l<|.i<|.nil)) .nil) (.bool _) (.turned .nil) rfl) rfl<|.g 2 rfl<|.dn (by kernel_rfl)<|.jw (h36 ((!x72.1),x72.2)) [(0,0),(1,1),(2,2)] rfl
instance nat_Small_i (a0:List Int):PC (nat_Small a0) Tryz.prog 348 [(slK (kInt .u32) a0)] (fun r=>(.tup [(.int .u64 r.1),(.bool r.2)])):=pc func348 (by kernel_rfl) rfl fun E=>by
 unfold nat_Small
 refine .g 9 rfl<|.p0 rfl rfl fun x2 _=>.g 7 rfl<|.ln rfl rfl<|.g 9 rfl<|?_
 refine .cd rfl (fun _ _=>?_) fun _ _=>?_
 ·refine .g 9 rfl<|.fi rfl rfl
 ·refine .g 6 rfl<|?_
  refine .cd rfl (fun _ _=>?_) fun _ _=>?_
  ·refine .g 3 rfl<|.ix rfl rfl<|.g 9 rfl<|.fi rfl rfl
  ·refine .g 6 rfl<|?_
   refine .cd rfl (fun _ _=>?_) fun _ _=>?_
   ·refine .g 3 rfl<|.ix rfl rfl<|.g 4 rfl<|.ix rfl rfl<|.g 5 rfl<|.dn (by kernel_rfl)<|.g 4 rfl<|.fi rfl rfl
   ·refine .g 10 rfl<|.fi rfl rfl
instance zint_Small_i (a0:ApiInt):PC (zint_Small a0) Tryz.prog 315 [(.agg (kN.enc a0))] (fun r=>(.tup [(.int .i64 r.1),(.bool r.2)])):=pc func315 (by kernel_rfl) rfl fun E=>by
 unfold zint_Small
 refine .g 10 rfl<|.p0 rfl rfl fun x7 _=>.g 9 rfl<|.p0 rfl rfl fun x8 _=>.g 10 rfl<|?_
 refine .cut (fun x:Bool=>(zint_Small_j1 x8 x7 x,[eP 4 1,eX 5 x8.1,eB 6 x8.2,eB 16 x],[(1,(.live 197 [(slK (kInt .u32) (((x7).size).mag)),(.bool ((x7).neg))]))])) ?_ ?_
 ·rintro y11
  dsimp only [zint_Small_j1]
  refine .g 1 rfl<|?_
  refine .cd rfl (fun _ _=>?_) fun _ _=>?_
  ·refine .g 12 rfl<|.fi rfl rfl
  ·refine .g 1 rfl<|?_
   refine .cut (fun x:Bool=>(zint_Small_j2 x8 x,[eX 5 x8.1,eB 29 x],[])) ?_ ?_
   ·rintro y12
    dsimp only [zint_Small_j2]
    refine .g 1 rfl<|?_
    refine .cd rfl (fun _ _=>?_) fun _ _=>?_
    ·refine .g 11 rfl<|.fi rfl rfl
    ·refine .g 10 rfl<|.fi rfl rfl
   ·intro h23
    refine .g 3 rfl<|?_
    refine .gd 31 rfl (fun _=>?_) fun _=>?_
    ·refine .g 5 rfl<|?_
     refine .gd 36 rfl (fun _=>?_) fun _=>?_
     ·refine .g 5 rfl<|.jw (h23 (decide (x8.1<9223372036854775808))) [] rfl
     ·refine .g 5 rfl<|.jw (h23 false) [] rfl
    ·refine .g 10 rfl<|.jw (h23 false) [] rfl
 ·intro h26
  refine .g 3 rfl<|?_
  refine .gd 18 rfl (fun _=>?_) fun _=>?_
  ·refine .g 4 rfl<|?_
   refine .gd 22 rfl (fun _=>?_) fun _=>?_
   ·refine .g 5 rfl<|.jw (h26 (decide (x8.1≤9223372036854775808))) [(1,1)] rfl
   ·refine .g 5 rfl<|.jw (h26 false) [(1,1)] rfl
  ·refine .g 9 rfl<|.jw (h26 false) [(1,1)] rfl
instance trig_Turns_i (a0:AD) (a1:Int):PC (trig_Turns a0 a1) Tryz.prog 277 [(.agg (kD.enc a0)),(.int .i64 a1)] (fun r=>(.tup [(.int .i64 r.1),(.agg (kI.enc (⟨⟨(((r.2.1).Lo).M),((r.2.1).Lo).E⟩,⟨(((r.2.1).Hi).M),((r.2.1).Hi).E⟩⟩:AI))),(.int .i64 r.2.2)])):=pc func277 (by kernel_rfl) rfl fun E=>by
 unfold trig_Turns
 refine .g 13 rfl<|.p0 rfl rfl fun x24 _=>.g 3 rfl<|?_
 refine .cd rfl (fun _ _=>?_) fun _ _=>?_
 ·refine .g 10 rfl<|.fi rfl rfl
 ·refine .g 6 rfl<|.p0 rfl rfl fun x25 _=>.g 8 rfl<|?_
  refine .cut (fun x:Bool=>(trig_Turns_j1 a1 a0 x,[eI 1 a1,eP 2 0,eP 5 1,eB 30 x],[(0,(.live 26 [(.bool a0.M.Neg),(slK (kInt .u32) a0.M.Mag),(.int .i64 a0.E)])),(1,(.live 30 [(.bool false),(slK (kInt .u32) []),(.int .i64 0),(.bool false),(slK (kInt .u32) []),(.int .i64 0)]))])) ?_ ?_
  ·rintro y26
   dsimp only [trig_Turns_j1]
   refine .g 1 rfl<|?_
   refine .cd rfl (fun _ _=>?_) fun _ _=>?_
   ·refine .g 10 rfl<|.fi rfl rfl
   ·refine .g 6 rfl<|.bind fun x27 h8=>?_
    rcases x27 with x28 | x29
    ·dsimp only
     refine .st rfl (cl (iv_New_k_0 h8) [] [2] [true] rfl (.i<|.nil) .nil (fresh_cons rfl fnil) (.cons .dead .nil) (ren_tupL (.cons .nilptr<|.i<|.nil)) (.turned .nil) rfl) rfl<|.g 11 rfl<|.no
    ·dsimp only
     refine .st rfl (cl (iv_New_k_1 h8) [] [2] [true] rfl (.i<|.nil) .nil (fresh_cons rfl fnil) (.cons (.v (.i<|.i<|.nil)) .nil) (ren_tupL (.p rfl<|.i<|.nil)) (.turned .nil) rfl) rfl<|.g 11 rfl<|.bind fun x30 h9=>.st rfl (cl (CC.h h9) [2] [] [true] rfl (.p rfl<|.nil) (.p rfl (.i<|.i<|.nil) .nil) fnil (.cons (.v (.i<|.i<|.nil)) .nil) (ren_agg (K:=kI) _) (.turned .nil) rfl) rfl<|.bind fun x31 h10=>.st rfl (cl (CC.h h10) [2] [] [true] rfl (.p rfl<|.a kI<|.i<|.nil) (.p rfl (.i<|.i<|.nil) .nil) fnil (.cons (.v (.i<|.i<|.nil)) .nil) (ren_agg (K:=kI) _) (.turned .nil) rfl) rfl<|.g 10 rfl<|.bind fun x32 h11=>.st rfl (cl (CC.h h11) [2] [] [true] rfl (.p rfl<|.a kD<|.nil) (.p rfl (.i<|.i<|.nil) .nil) fnil (.cons (.v (.i<|.i<|.nil)) .nil) (ren_agg (K:=kI) _) (.turned .nil) rfl) rfl<|.g 1 rfl<|.bind fun x33 h12=>.st rfl (cl (CC.h h12) [2] [] [true] rfl (.p rfl<|.a kI<|.a kI<|.nil) (.p rfl (.i<|.i<|.nil) .nil) fnil (.cons (.v (.i<|.i<|.nil)) .nil) (ren_agg (K:=kI) _) (.turned .nil) rfl) rfl<|.g 1 rfl<|.p0 rfl rfl fun x34 _=>?_
     refine .bind fun x35 h14=>.st rfl (cl (CC.h h14) [2] [] [true] rfl (.p rfl<|.a kD<|.nil) (.p rfl (.i<|.i<|.nil) .nil) fnil (.cons (.v (.i<|.i<|.nil)) .nil) (ren_agg (K:=kI) _) (.turned .nil) rfl) rfl<|.bind fun x36 h15=>.st rfl (cl (CC.h h15) [2] [] [true] rfl (.p rfl<|.a kI<|.a kI<|.nil) (.p rfl (.i<|.i<|.nil) .nil) fnil (.cons (.v (.i<|.i<|.nil)) .nil) (ren_agg (K:=kI) _) (.turned .nil) rfl) rfl<|.g 2 rfl<|.dn (by kernel_rfl)<|.g 7 rfl<|.bind fun x37 h16=>.st rfl (cl (CC.h h16) [2] [] [false] rfl (.p rfl<|.nil) (.p rfl (.i<|.i<|.nil) .nil) fnil (.cons (.v (.i<|.i<|.nil)) .nil) (.int _ _) (.kept rfl .nil) rfl) rfl<|.g 9 rfl<|?_
     refine .cd rfl (fun _ _=>?_) fun _ _=>?_
     ·refine .g 11 rfl<|.fi rfl rfl
     ·refine .g 6 rfl<|.p0 rfl rfl fun x38 _=>.g 11 rfl<|.p0 rfl rfl fun x39 _=>.g 9 rfl<|?_
      refine .cut (fun x:Bool=>(trig_Turns_j2 a0 x36 x29 x39 x31 x,[eP 2 0,eI 4 x39.1,eP 5 1,eP 9 2,eP 11 3,eB 77 x],[(0,(.live 26 [(.bool a0.M.Neg),(slK (kInt .u32) a0.M.Mag),(.int .i64 a0.E)])),(1,(.live 30 [(.bool false),(slK (kInt .u32) []),(.int .i64 0),(.bool false),(slK (kInt .u32) []),(.int .i64 0)])),(2,(.live 53 [(.int .i64 x36.2),(.int .i64 x29.2.2)])),(3,(.live 30 [(.bool ((((x31.1).Lo).M).Neg)),(slK (kInt .u32) ((((x31.1).Lo).M).Mag)),(.int .i64 (((x31.1).Lo).E)),(.bool ((((x31.1).Hi).M).Neg)),(slK (kInt .u32) ((((x31.1).Hi).M).Mag)),(.int .i64 (((x31.1).Hi).E))]))])) ?_ ?_
      ·rintro y40
       dsimp only [trig_Turns_j2]
       refine .g 1 rfl<|?_
       refine .cd rfl (fun _ _=>?_) fun _ _=>?_
       ·refine .g 10 rfl<|.fi rfl rfl
       ·refine .g 8 rfl<|.bind fun x41 h24=>.st rfl (cl (CC.h h24) [2] [] [true] rfl (.p rfl<|.a kD<|.nil) (.p rfl (.i<|.i<|.nil) .nil) fnil (.cons (.v (.i<|.i<|.nil)) .nil) (ren_agg (K:=kI) _) (.turned .nil) rfl) rfl<|.g 3 rfl<|.bind fun x42 h25=>.st rfl (cl (CC.h h25) [2] [] [true] rfl (.p rfl<|.i<|.nil) (.p rfl (.i<|.i<|.nil) .nil) fnil (.cons (.v (.i<|.i<|.nil)) .nil) (ren_agg (K:=kI) _) (.turned .nil) rfl) rfl<|.g 1 rfl<|.bind fun x43 h26=>.st rfl (cl (CC.h h26) [2] [] [true] rfl (.p rfl<|.a kI<|.a kI<|.nil) (.p rfl (.i<|.i<|.nil) .nil) fnil (.cons (.v (.i<|.i<|.nil)) .nil) (ren_agg (K:=kI) _) (.turned .nil) rfl) rfl<|.bind fun x44 h27=>.st rfl (cl (CC.h h27) [2] [] [true] rfl (.p rfl<|.a kI<|.a kI<|.nil) (.p rfl (.i<|.i<|.nil) .nil) fnil (.cons (.v (.i<|.i<|.nil)) .nil) (ren_agg (K:=kI) _) (.turned .nil) rfl) rfl<|.g 1 rfl<|.dn (by kernel_rfl)<|.g 6 rfl<|?_
        refine .bind fun x45 h28=>.st rfl (cl (CC.h h28) [2] [] [false] rfl (.p rfl<|.nil) (.p rfl (.i<|.i<|.nil) .nil) fnil (.cons (.v (.i<|.i<|.nil)) .nil) (.int _ _) (.kept rfl .nil) rfl) rfl<|.g 3 rfl<|?_
        refine .cd rfl (fun _ _=>?_) fun _ _=>?_
        ·refine .g 6 rfl<|.bind fun x46 h31=>.st rfl (cl (CC.h h31) [2] [] [false] rfl (.p rfl<|.nil) (.p rfl (.i<|.i<|.nil) .nil) fnil (.cons (.v (.i<|.i<|.nil)) .nil) (.int _ _) (.kept rfl .nil) rfl) rfl<|.g 7 rfl<|.fi rfl rfl
        ·refine .g 9 rfl<|.dn (by kernel_rfl)<|.g 2 rfl<|.fi rfl rfl
      ·intro h32
       refine .g 4 rfl<|?_
       refine .gd 74 rfl (fun _=>?_) fun _=>?_
       ·refine .g 4 rfl<|.jw (h32 true) [(0,0),(1,1),(2,2),(3,3)] rfl
       ·refine .g 4 rfl<|.jw (h32 (!x39.2)) [(0,0),(1,1),(2,2),(3,3)] rfl
  ·intro h34
   refine .g 3 rfl<|?_
   refine .gd 27 rfl (fun _=>?_) fun _=>?_
   ·refine .g 4 rfl<|.jw (h34 (decide (x25.1>11))) [(0,0),(1,1)] rfl
   ·refine .g 4 rfl<|.jw (h34 false) [(0,0),(1,1)] rfl
instance trig_one_func_c_iv_Calc_y_api_Iv_api_Iv_69d9_i (a0:Int):CC (trig_one_func_c_iv_Calc_y_api_Iv_api_Iv_69d9 a0) Tryz.prog 278 [(.int .i64 a0),(.sl [[(.fn 279 [] [])],[(.fn 280 [] [])]])] [] (fun r=>(match r with | (Sum.inl y)=>(.fn 279 [] []) | (Sum.inr y)=>(.fn 280 [] []))) (fun r=>(match r with | (Sum.inl y)=>[] | (Sum.inr y)=>[])):=cc func278 (by kernel_rfl) rfl fun E=>by
 unfold trig_one_func_c_iv_Calc_y_api_Iv_api_Iv_69d9
 refine .g 10 rfl<|.sv (.int .i64 2) [] rfl (snd_len _ _ _ _ _ rfl underlying293 rfl rfl rfl rfl) rfl<|.g 2 rfl<|?_
 refine .ite (fun h1=>?_) (fun h1=>?_)
 ·refine .sv (.iptr [(.fn 279 [] [])]) [] rfl (snd_index_at 0 _ _ _ _ _ _ _ _ rfl underlying293 si203 rfl rfl rfl rfl (by intro e he; simp at he; rcases he with rfl | rfl<;>rfl) rfl h1 rfl) rfl<|.g 5 rfl<|.fi rfl rfl
 ·refine .ite (fun h2=>?_) (fun h2=>?_)
  ·refine .sv (.iptr [(.fn 280 [] [])]) [] rfl (snd_index_at 1 _ _ _ _ _ _ _ _ rfl underlying293 si203 rfl rfl rfl rfl (by intro e he; simp at he; rcases he with rfl | rfl<;>rfl) rfl h2 rfl) rfl<|.g 5 rfl<|.fi rfl rfl
  ·exact .no
theorem trig_one_func_c_iv_Calc_y_api_Iv_api_Iv_69d9_k_0 {a0:Int} {r:Unit} (h:trig_one_func_c_iv_Calc_y_api_Iv_api_Iv_69d9 a0=some (Sum.inl r)):Cal Tryz.prog 278 [(.int .i64 a0),(.sl [[(.fn 279 [] [])],[(.fn 280 [] [])]])] [] (.fn 279 [] []) []:=CC.h h
theorem trig_one_func_c_iv_Calc_y_api_Iv_api_Iv_69d9_k_1 {a0:Int} {r:Unit} (h:trig_one_func_c_iv_Calc_y_api_Iv_api_Iv_69d9 a0=some (Sum.inr r)):Cal Tryz.prog 278 [(.int .i64 a0),(.sl [[(.fn 279 [] [])],[(.fn 280 [] [])]])] [] (.fn 280 [] []) []:=CC.h h
instance small_turned_i (a0:AI) (a1:AI) (a2:Int) (a3:Int) (a4:Int):CC (small_turned a0 a1 a2 a3 a4) Tryz.prog 336 [(.ptr 0 0),(.agg (kI.enc a0)),(.agg (kI.enc a1)),(.int .i64 a2)] [(.live 53 [(.int .i64 a3),(.int .i64 a4)])] (fun r=>(.agg (kI.enc (⟨⟨(((r.1).Lo).M),((r.1).Lo).E⟩,⟨(((r.1).Hi).M),((r.1).Hi).E⟩⟩:AI)))) (fun r=>[(.live 53 [(.int .i64 r.2),(.int .i64 a4)])]):=cc func336 (by kernel_rfl) rfl fun E=>by
 unfold small_turned
 refine .g 14 rfl<|.bind fun x5 h1=>.st rfl (cl (CC.h h1) [0] [] [true] rfl (.p rfl<|.a kI<|.a kI<|.nil) (.p rfl (.i<|.i<|.nil) .nil) fnil (.cons (.v (.i<|.i<|.nil)) .nil) (ren_agg (K:=kI) _) (.turned .nil) rfl) rfl<|.g 2 rfl<|.bind fun x6 h2=>.st rfl (cl (CC.h h2) [0] [] [true] rfl (.p rfl<|.i<|.nil) (.p rfl (.i<|.i<|.nil) .nil) fnil (.cons (.v (.i<|.i<|.nil)) .nil) (ren_agg (K:=kI) _) (.turned .nil) rfl) rfl<|.bind fun x7 h3=>.st rfl (cl (CC.h h3) [0] [] [true] rfl (.p rfl<|.a kI<|.a kI<|.nil) (.p rfl (.i<|.i<|.nil) .nil) fnil (.cons (.v (.i<|.i<|.nil)) .nil) (ren_agg (K:=kI) _) (.turned .nil) rfl) rfl<|.bind fun x8 h4=>.st rfl (cl (CC.h h4) [0] [] [true] rfl (.p rfl<|.a kI<|.nil) (.p rfl (.i<|.i<|.nil) .nil) fnil (.cons (.v (.i<|.i<|.nil)) .nil) (ren_agg (K:=kI) _) (.turned .nil) rfl) rfl<|.g 4 rfl<|.fi rfl rfl
instance small_Sin_1_i (a0:Int) (a1:AI) (a2:Int) (a3:Int) (a4:Bool) (a5:List Int) (a6:Int) (a7:Bool) (a8:List Int) (a9:Int):CC (small_Sin_1 a0 a1 a2 a3 a4 a5 a6 a7 a8 a9) Tryz.prog 335 [(.int .i64 a0),(.agg (kI.enc a1)),(.ptr 0 0),(.ptr 2 0)] [(.live 45 [(.ptr 1 0)]),(.live 53 [(.int .i64 a2),(.int .i64 a3)]),(.live 30 [(.bool a4),(slK (kInt .u32) a5),(.int .i64 a6),(.bool a7),(slK (kInt .u32) a8),(.int .i64 a9)])] (fun r=>(.agg (kI.enc (⟨⟨(((r.1).Lo).M),((r.1).Lo).E⟩,⟨(((r.1).Hi).M),((r.1).Hi).E⟩⟩:AI)))) (fun r=>[(.live 45 [(.ptr 1 0)]),(.live 53 [(.int .i64 r.2),(.int .i64 a3)]),(.live 30 [(.bool a4),(slK (kInt .u32) a5),(.int .i64 a6),(.bool a7),(slK (kInt .u32) a8),(.int .i64 a9)])]):=cc func335 (by kernel_rfl) rfl fun E=>by
 unfold small_Sin_1
 refine .g 17 rfl<|.bind fun x2 h1=>.st rfl (cl (CC.h h1) [1] [] [true] rfl (.p rfl<|.a kI<|.a kI<|.i<|.nil) (.p rfl (.i<|.i<|.nil) .nil) fnil (.cons (.v (.i<|.i<|.nil)) .nil) (ren_agg (K:=kI) _) (.turned .nil) rfl) rfl<|.g 4 rfl<|.fi rfl rfl
instance small_plain_1_7cba_i (a0:Int) (a1:AI) (a2:Int) (a3:Int) (a4:Bool) (a5:List Int) (a6:Int) (a7:Bool) (a8:List Int) (a9:Int):CC (small_plain_1_7cba a0 a1 a2 a3 a4 a5 a6 a7 a8 a9) Tryz.prog 328 [(.int .i64 a0),(.agg (kI.enc a1)),(.ptr 0 0)] [(.live 257 [(.fn 335 [] [(.ptr 1 0),(.ptr 3 0)])]),(.live 45 [(.ptr 2 0)]),(.live 53 [(.int .i64 a2),(.int .i64 a3)]),(.live 30 [(.bool a4),(slK (kInt .u32) a5),(.int .i64 a6),(.bool a7),(slK (kInt .u32) a8),(.int .i64 a9)])] (fun r=>(.tup [(.agg (kI.enc (⟨⟨(((r.1).Lo).M),((r.1).Lo).E⟩,⟨(((r.1).Hi).M),((r.1).Hi).E⟩⟩:AI))),(.agg (kI.enc (⟨⟨(((r.2.1).Lo).M),((r.2.1).Lo).E⟩,⟨(((r.2.1).Hi).M),((r.2.1).Hi).E⟩⟩:AI)))])) (fun r=>[(.live 257 [(.fn 335 [] [(.ptr 1 0),(.ptr 3 0)])]),(.live 45 [(.ptr 2 0)]),(.live 53 [(.int .i64 r.2.2),(.int .i64 a3)]),(.live 30 [(.bool a4),(slK (kInt .u32) a5),(.int .i64 a6),(.bool a7),(slK (kInt .u32) a8),(.int .i64 a9)])]):=cc func328 (by kernel_rfl) rfl fun E=>by
 unfold small_plain_1_7cba
 refine .g 12 rfl<|.bind fun x2 h1=>.st rfl (cl (CC.h h1) [1,2,3] [] [false,true,false] rfl (.i<|.a kI<|.p rfl<|.p rfl<|.nil) (.p rfl (.p rfl<|.nil) (.p rfl (.i<|.i<|.nil) (.p rfl (.b<|.l<|.i<|.b<|.l<|.i<|.nil) .nil))) fnil (.cons (.v (.p rfl<|.nil)) (.cons (.v (.i<|.i<|.nil)) (.cons (.v (.b<|.l<|.i<|.b<|.l<|.i<|.nil)) .nil))) (ren_agg (K:=kI) _) (.kept rfl (.turned (.kept rfl .nil))) rfl) rfl<|.g 9 rfl<|.dn (by kernel_rfl)<|.g 2 rfl<|.fi rfl rfl
instance small_series_f1ab_i (a0:AI) (a1:Int) (a2:Int) (a3:Bool) (a4:List Int) (a5:Int) (a6:Bool) (a7:List Int) (a8:Int):CC (small_series_f1ab a0 a1 a2 a3 a4 a5 a6 a7 a8) Tryz.prog 327 [(.ptr 0 0),(.agg (kI.enc a0)),(.fn 328 [] [(.ptr 1 0)])] [(.live 53 [(.int .i64 a1),(.int .i64 a2)]),(.live 257 [(.fn 335 [] [(.ptr 2 0),(.ptr 3 0)])]),(.live 45 [(.ptr 0 0)]),(.live 30 [(.bool a3),(slK (kInt .u32) a4),(.int .i64 a5),(.bool a6),(slK (kInt .u32) a7),(.int .i64 a8)])] (fun r=>(.agg (kI.enc (⟨⟨(((r.1).Lo).M),((r.1).Lo).E⟩,⟨(((r.1).Hi).M),((r.1).Hi).E⟩⟩:AI)))) (fun r=>[(.live 53 [(.int .i64 r.2),(.int .i64 a2)]),(.live 257 [(.fn 335 [] [(.ptr 2 0),(.ptr 3 0)])]),(.live 45 [(.ptr 0 0)]),(.live 30 [(.bool a3),(slK (kInt .u32) a4),(.int .i64 a5),(.bool a6),(slK (kInt .u32) a7),(.int .i64 a8)])]):=cc func327 (by kernel_rfl) rfl fun E=>by
 unfold small_series_f1ab
 refine .g 14 rfl<|.dn (by kernel_rfl)<|.g 5 rfl<|.bind fun x93 h1=>.st rfl (cl (CC.h h1) [0] [] [false] rfl (.p rfl<|.nil) (.p rfl (.i<|.i<|.nil) .nil) fnil (.cons (.v (.i<|.i<|.nil)) .nil) (.int _ _) (.kept rfl .nil) rfl) rfl<|.p0 rfl rfl fun x94 _=>.g 3 rfl<|?_
 refine .cut (fun x:Int × Bool × (List Int) × Int × Bool × (List Int) × Int=>(small_series_f1ab_j1 a2 x.1 x.2.1 x.2.2.1 x.2.2.2.1 x.2.2.2.2.1 x.2.2.2.2.2.1 x.2.2.2.2.2.2,[eP 0 0,eP 6 5,eP 7 6],[(0,(.live 53 [(.int .i64 x.1),(.int .i64 a2)])),(1,(.live 257 [(.fn 335 [] [(.ptr 2 0),(.ptr 3 0)])])),(2,(.live 45 [(.ptr 0 0)])),(3,(.live 30 [(.bool a3),(slK (kInt .u32) a4),(.int .i64 a5),(.bool a6),(slK (kInt .u32) a7),(.int .i64 a8)])),(5,(.live 30 [(.bool false),(slK (kInt .u32) []),(.int .i64 0),(.bool false),(slK (kInt .u32) []),(.int .i64 0)])),(6,(.live 30 [(.bool x.2.1),(slK (kInt .u32) x.2.2.1),(.int .i64 x.2.2.2.1),(.bool x.2.2.2.2.1),(slK (kInt .u32) x.2.2.2.2.2.1),(.int .i64 x.2.2.2.2.2.2)]))])) ?_ ?_
 ·rintro ⟨y135,y136,y137,y138,y139,y140,y141⟩
  dsimp only [small_series_f1ab_j1]
  refine .g 6 rfl<|.bind fun x142 h21=>.st rfl (cl (CC.h h21) [0] [] [false] rfl (.p rfl<|.nil) (.p rfl (.i<|.i<|.nil) .nil) fnil (.cons (.v (.i<|.i<|.nil)) .nil) (.int _ _) (.kept rfl .nil) rfl) rfl<|.g 1 rfl<|.p0 rfl rfl fun x143 _=>.bind fun x144 h23=>.st rfl (cl (CC.h h23) [0] [] [true] rfl (.p rfl<|.a kI<|.a kD<|.nil) (.p rfl (.i<|.i<|.nil) .nil) fnil (.cons (.v (.i<|.i<|.nil)) .nil) (ren_agg (K:=kI) _) (.turned .nil) rfl) rfl<|.g 1 rfl<|.dn (by kernel_rfl)<|.g 2 rfl<|.fi rfl rfl
 ·intro h24
  refine .g 1 rfl<|?_
  refine .lp (fun n (x:Int × Int × Bool × (List Int) × Int × Bool × (List Int) × Int × Bool × (List Int) × Int × Bool × (List Int) × Int)=>small_series_f1ab_l2 x94 a2 a3 a4 a5 a6 a7 a8 n x.1 x.2.1 x.2.2.1 x.2.2.2.1 x.2.2.2.2.1 x.2.2.2.2.2.1 x.2.2.2.2.2.2.1 x.2.2.2.2.2.2.2.1 x.2.2.2.2.2.2.2.2.1 x.2.2.2.2.2.2.2.2.2.1 x.2.2.2.2.2.2.2.2.2.2.1 x.2.2.2.2.2.2.2.2.2.2.2.1 x.2.2.2.2.2.2.2.2.2.2.2.2.1 x.2.2.2.2.2.2.2.2.2.2.2.2.2) (fun x=>([eP 0 0,(2,some (.fn 328 [] [(.ptr 1 0)])),eP 6 5,eP 7 6,eP 8 7,eI 15 x94,eI 16 x.1],[(0,(.live 53 [(.int .i64 x.2.1),(.int .i64 a2)])),(1,(.live 257 [(.fn 335 [] [(.ptr 2 0),(.ptr 3 0)])])),(2,(.live 45 [(.ptr 0 0)])),(3,(.live 30 [(.bool a3),(slK (kInt .u32) a4),(.int .i64 a5),(.bool a6),(slK (kInt .u32) a7),(.int .i64 a8)])),(5,(.live 30 [(.bool false),(slK (kInt .u32) []),(.int .i64 0),(.bool false),(slK (kInt .u32) []),(.int .i64 0)])),(6,(.live 30 [(.bool x.2.2.1),(slK (kInt .u32) x.2.2.2.1),(.int .i64 x.2.2.2.2.1),(.bool x.2.2.2.2.2.1),(slK (kInt .u32) x.2.2.2.2.2.2.1),(.int .i64 x.2.2.2.2.2.2.2.1)])),(7,(.live 30 [(.bool x.2.2.2.2.2.2.2.2.1),(slK (kInt .u32) x.2.2.2.2.2.2.2.2.2.1),(.int .i64 x.2.2.2.2.2.2.2.2.2.2.1),(.bool x.2.2.2.2.2.2.2.2.2.2.2.1),(slK (kInt .u32) x.2.2.2.2.2.2.2.2.2.2.2.2.1),(.int .i64 x.2.2.2.2.2.2.2.2.2.2.2.2.2)]))])) (0,a1,a0.Lo.M.Neg,a0.Lo.M.Mag,a0.Lo.E,a0.Hi.M.Neg,a0.Hi.M.Mag,a0.Hi.E,a0.Lo.M.Neg,a0.Lo.M.Mag,a0.Lo.E,a0.Hi.M.Neg,a0.Hi.M.Mag,a0.Hi.E) [(0,0),(1,1),(2,2),(3,3),(5,5),(6,6),(7,7)] rfl ?_
  rintro n2 ⟨y167,y168,y169,y170,y171,y172,y173,y174,y175,y176,y177,y178,y179,y180⟩
  try dsimp only
  rw [small_series_f1ab_l2]
  refine .g 6 rfl<|?_
  refine .cd rfl (fun _ _=>?_) fun _ _=>?_
  ·refine .g 21 rfl<|.bind fun x183 h41=>.st rfl (cl (CC.h h41) [1,2,0,3] [] [false,false,true,false] rfl (.i<|.a kI<|.p rfl<|.nil) (.p rfl (.cons (ren_fnL _ .nil (.p rfl<|.p rfl<|.nil))<|.nil) (.p rfl (.p rfl<|.nil) (.p rfl (.i<|.i<|.nil) (.p rfl (.b<|.l<|.i<|.b<|.l<|.i<|.nil) .nil)))) fnil (.cons (.v (.cons (ren_fnL _ .nil (.p rfl<|.p rfl<|.nil))<|.nil)) (.cons (.v (.p rfl<|.nil)) (.cons (.v (.i<|.i<|.nil)) (.cons (.v (.b<|.l<|.i<|.b<|.l<|.i<|.nil)) .nil)))) (ren_tupL (.a kI<|.a kI<|.nil)) (.kept rfl (.kept rfl (.turned (.kept rfl .nil)))) rfl) rfl<|.g 11 rfl<|.bind fun x184 h42=>.st rfl (cl (CC.h h42) [0] [] [true] rfl (.p rfl<|.a kI<|.a kI<|.nil) (.p rfl (.i<|.i<|.nil) .nil) fnil (.cons (.v (.i<|.i<|.nil)) .nil) (ren_agg (K:=kI) _) (.turned .nil) rfl) rfl<|.g 8 rfl<|.ag ((IntKind.i64.wrap (y167+1)),x184.2,(((x184.1).Lo).M).Neg,(((x184.1).Lo).M).Mag,((x184.1).Lo).E,(((x184.1).Hi).M).Neg,(((x184.1).Hi).M).Mag,((x184.1).Hi).E,(((x183.1).Lo).M).Neg,(((x183.1).Lo).M).Mag,((x183.1).Lo).E,(((x183.1).Hi).M).Neg,(((x183.1).Hi).M).Mag,((x183.1).Hi).E) [(0,0),(1,1),(2,2),(3,3),(5,5),(6,6),(7,7)] rfl
  ·refine .g 4 rfl<|.jw (h24 (y168,y169,y170,y171,y172,y173,y174)) [(0,0),(1,1),(2,2),(3,3),(5,5),(6,6)] rfl
instance small_plain_c50f_i (a0:AI) (a1:Int) (a2:Int) (a3:Bool) (a4:List Int) (a5:Int) (a6:Bool) (a7:List Int) (a8:Int):CC (small_plain_c50f a0 a1 a2 a3 a4 a5 a6 a7 a8) Tryz.prog 271 [(.ptr 0 0),(.agg (kI.enc a0)),(.fn 335 [] [(.ptr 1 0),(.ptr 2 0)])] [(.live 53 [(.int .i64 a1),(.int .i64 a2)]),(.live 45 [(.ptr 0 0)]),(.live 30 [(.bool a3),(slK (kInt .u32) a4),(.int .i64 a5),(.bool a6),(slK (kInt .u32) a7),(.int .i64 a8)])] (fun r=>(.agg (kI.enc (⟨⟨(((r.1).Lo).M),((r.1).Lo).E⟩,⟨(((r.1).Hi).M),((r.1).Hi).E⟩⟩:AI)))) (fun r=>[(.live 53 [(.int .i64 r.2),(.int .i64 a2)]),(.live 45 [(.ptr 0 0)]),(.live 30 [(.bool a3),(slK (kInt .u32) a4),(.int .i64 a5),(.bool a6),(slK (kInt .u32) a7),(.int .i64 a8)])]):=cc func271 (by kernel_rfl) rfl fun E=>by
 unfold small_plain_c50f
 refine .g 12 rfl<|.bind fun x2 h1=>.st rfl (cl (CC.h h1) [0,4,1,2] [] [true,false,false,false] rfl (.p rfl<|.a kI<|.cons (ren_fnL _ .nil (.p rfl<|.nil))<|.nil) (.p rfl (.i<|.i<|.nil) (.p rfl (.cons (ren_fnL _ .nil (.p rfl<|.p rfl<|.nil))<|.nil) (.p rfl (.p rfl<|.nil) (.p rfl (.b<|.l<|.i<|.b<|.l<|.i<|.nil) .nil)))) fnil (.cons (.v (.i<|.i<|.nil)) (.cons (.v (.cons (ren_fnL _ .nil (.p rfl<|.p rfl<|.nil))<|.nil)) (.cons (.v (.p rfl<|.nil)) (.cons (.v (.b<|.l<|.i<|.b<|.l<|.i<|.nil)) .nil)))) (ren_agg (K:=kI) _) (.turned (.kept rfl (.kept rfl (.kept rfl .nil)))) rfl) rfl<|.g 4 rfl<|.fi rfl rfl
instance small_Sin_i (a0:AI) (a1:Int) (a2:Int):CC (small_Sin a0 a1 a2) Tryz.prog 279 [(.ptr 0 0),(.agg (kI.enc a0))] [(.live 53 [(.int .i64 a1),(.int .i64 a2)])] (fun r=>(.agg (kI.enc (⟨⟨(((r.1).Lo).M),((r.1).Lo).E⟩,⟨(((r.1).Hi).M),((r.1).Hi).E⟩⟩:AI)))) (fun r=>[(.live 53 [(.int .i64 r.2),(.int .i64 a2)])]):=cc func279 (by kernel_rfl) rfl fun E=>by
 unfold small_Sin
 refine .g 12 rfl<|.bind fun x4 h1=>.st rfl (cl (CC.h h1) [0] [] [true] rfl (.p rfl<|.a kI<|.i<|.nil) (.p rfl (.i<|.i<|.nil) .nil) fnil (.cons (.v (.i<|.i<|.nil)) .nil) (.bool _) (.turned .nil) rfl) rfl<|.g 3 rfl<|?_
 refine .cd rfl (fun _ _=>?_) fun _ _=>?_
 ·refine .g 8 rfl<|.fi rfl rfl
 ·refine .g 7 rfl<|.bind fun x5 h4=>.st rfl (cl (CC.h h4) [0] [] [true] rfl (.p rfl<|.a kI<|.a kI<|.nil) (.p rfl (.i<|.i<|.nil) .nil) fnil (.cons (.v (.i<|.i<|.nil)) .nil) (ren_agg (K:=kI) _) (.turned .nil) rfl) rfl<|.g 9 rfl<|.bind fun x6 h5=>.st rfl (cl (CC.h h5) [0,1,4] [] [true,false,false] rfl (.p rfl<|.a kI<|.cons (ren_fnL _ .nil (.p rfl<|.p rfl<|.nil))<|.nil) (.p rfl (.i<|.i<|.nil) (.p rfl (.p rfl<|.nil) (.p rfl (.b<|.l<|.i<|.b<|.l<|.i<|.nil) .nil))) fnil (.cons (.v (.i<|.i<|.nil)) (.cons (.v (.p rfl<|.nil)) (.cons (.v (.b<|.l<|.i<|.b<|.l<|.i<|.nil)) .nil))) (ren_agg (K:=kI) _) (.turned (.kept rfl (.kept rfl .nil))) rfl) rfl<|.g 4 rfl<|.fi rfl rfl
instance trig_one_func_a_api_Iv_api_Iv_4a04_i (a0:Int) (a1:Int) (a2:Int):CC (trig_one_func_a_api_Iv_api_Iv_4a04 a0 a1 a2) Tryz.prog 281 [(.int .i64 a0),(.sl [[(.fn 282 [] [])],[(.fn 94 [(.ptr 0 0)] [])]])] [(.live 53 [(.int .i64 a1),(.int .i64 a2)])] (fun r=>(match r with | (Sum.inl y)=>(.fn 282 [] []) | (Sum.inr y)=>(.fn 94 [(.ptr 0 0)] []))) (fun r=>(match r with | (Sum.inl y)=>[(.live 53 [(.int .i64 a1),(.int .i64 a2)])] | (Sum.inr y)=>[(.live 53 [(.int .i64 a1),(.int .i64 a2)])])):=cc func281 (by kernel_rfl) rfl fun E=>by
 unfold trig_one_func_a_api_Iv_api_Iv_4a04
 refine .g 10 rfl<|.sv (.int .i64 2) [] rfl (snd_len _ _ _ _ _ rfl underlying295 rfl rfl rfl rfl) rfl<|.g 2 rfl<|?_
 refine .ite (fun h1=>?_) (fun h1=>?_)
 ·refine .sv (.iptr [(.fn 282 [] [])]) [] rfl (snd_index_at 0 _ _ _ _ _ _ _ _ rfl underlying295 si131 rfl rfl rfl rfl (by intro e he; simp at he; rcases he with rfl | rfl<;>rfl) rfl h1 rfl) rfl<|.g 5 rfl<|.fi rfl rfl
 ·refine .ite (fun h2=>?_) (fun h2=>?_)
  ·refine .sv (.iptr [(.fn 94 [(.ptr 0 0)] [])]) [] rfl (snd_index_at 1 _ _ _ _ _ _ _ _ rfl underlying295 si131 rfl rfl rfl rfl (by intro e he; simp at he; rcases he with rfl | rfl<;>rfl) rfl h2 rfl) rfl<|.g 5 rfl<|.fi rfl rfl
  ·exact .no
theorem trig_one_func_a_api_Iv_api_Iv_4a04_k_0 {a0:Int} {a1:Int} {a2:Int} {r:Unit} (h:trig_one_func_a_api_Iv_api_Iv_4a04 a0 a1 a2=some (Sum.inl r)):Cal Tryz.prog 281 [(.int .i64 a0),(.sl [[(.fn 282 [] [])],[(.fn 94 [(.ptr 0 0)] [])]])] [(.live 53 [(.int .i64 a1),(.int .i64 a2)])] (.fn 282 [] []) [(.live 53 [(.int .i64 a1),(.int .i64 a2)])]:=CC.h h
theorem trig_one_func_a_api_Iv_api_Iv_4a04_k_1 {a0:Int} {a1:Int} {a2:Int} {r:Unit} (h:trig_one_func_a_api_Iv_api_Iv_4a04 a0 a1 a2=some (Sum.inr r)):Cal Tryz.prog 281 [(.int .i64 a0),(.sl [[(.fn 282 [] [])],[(.fn 94 [(.ptr 0 0)] [])]])] [(.live 53 [(.int .i64 a1),(.int .i64 a2)])] (.fn 94 [(.ptr 0 0)] []) [(.live 53 [(.int .i64 a1),(.int .i64 a2)])]:=CC.h h
instance trig_quarter_1_i (a0:AI):PC (trig_quarter_1 a0) Tryz.prog 282 [(.agg (kI.enc a0))] (fun r=>(.agg (kI.enc (⟨⟨(((r).Lo).M),((r).Lo).E⟩,⟨(((r).Hi).M),((r).Hi).E⟩⟩:AI)))):=pc func282 (by kernel_rfl) rfl fun E=>by
 unfold trig_quarter_1
 refine .g 13 rfl<|.fi rfl rfl
instance cv_Out_i (a0:AI) (a1:Int) (a2:Int):CC (cv_Out a0 a1 a2) Tryz.prog 144 [(.ptr 0 0),(.agg (kI.enc a0))] [(.live 53 [(.int .i64 a1),(.int .i64 a2)])] (fun r=>(.agg (kI.enc (⟨⟨(((r.1).Lo).M),((r.1).Lo).E⟩,⟨(((r.1).Hi).M),((r.1).Hi).E⟩⟩:AI)))) (fun r=>[(.live 53 [(.int .i64 r.2),(.int .i64 a2)])]):=cc func144 (by kernel_rfl) rfl fun E=>by
 unfold cv_Out
 refine .g 11 rfl<|.st rfl (bs kI [a0] rfl rfl) rfl<|.bind fun x5 h1=>.st rfl (cl (CC.h h1) [0] [] [true] rfl (.p rfl<|.l<|.nil) (.p rfl (.i<|.i<|.nil) .nil) fnil (.cons (.v (.i<|.i<|.nil)) .nil) (.bool _) (.turned .nil) rfl) rfl<|.g 3 rfl<|?_
 refine .cd rfl (fun _ _=>?_) fun _ _=>?_
 ·refine .g 8 rfl<|.fi rfl rfl
 ·refine .g 7 rfl<|.bind fun x6 h4=>.st rfl (cl (CC.h h4) [0] [] [true] rfl (.p rfl<|.a kD<|.nil) (.p rfl (.i<|.i<|.nil) .nil) fnil (.cons (.v (.i<|.i<|.nil)) .nil) (ren_agg (K:=kD) _) (.turned .nil) rfl) rfl<|.g 11 rfl<|.bind fun x7 h5=>.st rfl (cl (CC.h h5) [0] [] [true] rfl (.p rfl<|.a kD<|.nil) (.p rfl (.i<|.i<|.nil) .nil) fnil (.cons (.v (.i<|.i<|.nil)) .nil) (ren_agg (K:=kD) _) (.turned .nil) rfl) rfl<|.bind fun x8 h6=>.st rfl (cl (CC.h h6) [0] [] [false] rfl (.p rfl<|.a kD<|.a kD<|.nil) (.p rfl (.i<|.i<|.nil) .nil) fnil (.cons (.v (.i<|.i<|.nil)) .nil) (ren_agg (K:=kI) _) (.kept rfl .nil) rfl) rfl<|.g 1 rfl<|.dn (by kernel_rfl)<|.g 2 rfl<|.fi rfl rfl
instance trig_done_i (a0:AI) (a1:Int) (a2:Int) (a3:Int):CC (trig_done a0 a1 a2 a3) Tryz.prog 234 [(.ptr 0 0),(.agg (kI.enc a0)),(.int .i64 a1)] [(.live 53 [(.int .i64 a2),(.int .i64 a3)])] (fun r=>(.tup [(.agg (kI.enc (⟨⟨(((r.1).Lo).M),((r.1).Lo).E⟩,⟨(((r.1).Hi).M),((r.1).Hi).E⟩⟩:AI))),(.int .i64 r.2)])) (fun r=>[(.live 53 [(.int .i64 a2),(.int .i64 a3)])]):=cc func234 (by kernel_rfl) rfl fun E=>by
 unfold trig_done
 refine .g 13 rfl<|.bind fun x7 h1=>.st rfl (cl (CC.h h1) [0] [] [false] rfl (.p rfl<|.nil) (.p rfl (.i<|.i<|.nil) .nil) fnil (.cons (.v (.i<|.i<|.nil)) .nil) (.int _ _) (.kept rfl .nil) rfl) rfl<|.g 9 rfl<|?_
 refine .cd rfl (fun _ _=>?_) fun _ _=>?_
 ·refine .g 10 rfl<|.fi rfl rfl
 ·refine .g 5 rfl<|.bind fun x8 h4=>?_
  rcases x8 with x9 | x10
  ·dsimp only
   refine .st rfl (cl (iv_New_k_0 h4) [] [3] [true] rfl (.i<|.nil) .nil (fresh_cons rfl fnil) (.cons .dead .nil) (ren_tupL (.cons .nilptr<|.i<|.nil)) (.turned .nil) rfl) rfl<|.g 11 rfl<|.no
  ·dsimp only
   refine .st rfl (cl (iv_New_k_1 h4) [] [3] [true] rfl (.i<|.nil) .nil (fresh_cons rfl fnil) (.cons (.v (.i<|.i<|.nil)) .nil) (ren_tupL (.p rfl<|.i<|.nil)) (.turned .nil) rfl) rfl<|.g 11 rfl<|.bind fun x11 h5=>.st rfl (cl (CC.h h5) [3] [] [true] rfl (.p rfl<|.a kI<|.nil) (.p rfl (.i<|.i<|.nil) .nil) fnil (.cons (.v (.i<|.i<|.nil)) .nil) (ren_agg (K:=kI) _) (.turned .nil) rfl) rfl<|.g 10 rfl<|.bind fun x12 h6=>.st rfl (cl (CC.h h6) [3] [] [false] rfl (.p rfl<|.nil) (.p rfl (.i<|.i<|.nil) .nil) fnil (.cons (.v (.i<|.i<|.nil)) .nil) (.int _ _) (.kept rfl .nil) rfl) rfl<|.g 2 rfl<|.dn (by kernel_rfl)<|.g 2 rfl<|.fi rfl rfl
instance small_Cos_1_i (a0:Int) (a1:AI) (a2:Int) (a3:Int) (a4:Bool) (a5:List Int) (a6:Int) (a7:Bool) (a8:List Int) (a9:Int):CC (small_Cos_1 a0 a1 a2 a3 a4 a5 a6 a7 a8 a9) Tryz.prog 337 [(.int .i64 a0),(.agg (kI.enc a1)),(.ptr 0 0),(.ptr 2 0)] [(.live 45 [(.ptr 1 0)]),(.live 53 [(.int .i64 a2),(.int .i64 a3)]),(.live 30 [(.bool a4),(slK (kInt .u32) a5),(.int .i64 a6),(.bool a7),(slK (kInt .u32) a8),(.int .i64 a9)])] (fun r=>(.agg (kI.enc (⟨⟨(((r.1).Lo).M),((r.1).Lo).E⟩,⟨(((r.1).Hi).M),((r.1).Hi).E⟩⟩:AI)))) (fun r=>[(.live 45 [(.ptr 1 0)]),(.live 53 [(.int .i64 r.2),(.int .i64 a3)]),(.live 30 [(.bool a4),(slK (kInt .u32) a5),(.int .i64 a6),(.bool a7),(slK (kInt .u32) a8),(.int .i64 a9)])]):=cc func337 (by kernel_rfl) rfl fun E=>by
 unfold small_Cos_1
 refine .g 17 rfl<|.bind fun x2 h1=>.st rfl (cl (CC.h h1) [1] [] [true] rfl (.p rfl<|.a kI<|.a kI<|.i<|.nil) (.p rfl (.i<|.i<|.nil) .nil) fnil (.cons (.v (.i<|.i<|.nil)) .nil) (ren_agg (K:=kI) _) (.turned .nil) rfl) rfl<|.g 4 rfl<|.fi rfl rfl
end Go.Proofs.YtoakhpdeadglpaaGreat.Gen
