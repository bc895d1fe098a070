/- Printed by geng.py: a call does what the plain function says. -/
import Derived.Test.YtpmpcohbpankaaaGreatKonstKnownGenP2
set_option maxRecDepth 4000
namespace Go.Proofs.YtpmpcohbpankaaaGreat.Gen
open Go Go.Abs Go.Proofs Go.Proofs.Tryz
instance konst_parts_3d9d_i (a0:Int) (a1:Int) (a2:Int) (a3:Int) (a4:Int) (a5:Int):CC (konst_parts_3d9d a0 a1 a2 a3 a4 a5) Tryz.prog 124 [(.ptr 0 0),(.sl [[(.fn 52 [] []),(.int .i64 a0),(.int .i64 a1)],[(.fn 52 [] []),(.int .i64 a2),(.int .i64 a3)]])] [(.live 45 [(.int .i64 a4),(.int .i64 a5)])] (fun r=>(slK kI r.1)) (fun r=>[(.live 45 [(.int .i64 r.2),(.int .i64 a5)])]):=cc func124 (by kernel_rfl) rfl fun E=>by
 unfold konst_parts_3d9d
 refine .g 14 rfl<|.sv (.int .i64 2) [] rfl (snd_len _ _ _ _ _ rfl underlying154 rfl rfl rfl rfl) rfl<|.g 3 rfl<|?_
 refine .cut (fun x:Int × (List AI)=>(konst_parts_3d9d_j1 a1 a5 a3 x.1 x.2,[eP 0 0,(1,some (.sl [[(.fn 52 [] []),(.int .i64 a0),(.int .i64 a1)],[(.fn 52 [] []),(.int .i64 a2),(.int .i64 a3)]])),(5,some (grA kI 1 x.2))],[(0,(.live 45 [(.int .i64 x.1),(.int .i64 a5)])),(1,(grV kI 34 x.2))])) ?_ ?_
 ·rintro ⟨y195,y196⟩
  dsimp only [konst_parts_3d9d_j1]
  refine .g 5 rfl<|.sv (.int .i64 2) [] rfl (snd_len _ _ _ _ _ rfl underlying154 rfl rfl rfl rfl) rfl<|.g 3 rfl<|?_
  refine .cut (fun x:Int × (List AI)=>(konst_parts_3d9d_j2 x.1 x.2,[(5,some (grA kI 1 x.2))],[(0,(.live 45 [(.int .i64 x.1),(.int .i64 a5)])),(1,(grV kI 34 x.2))])) ?_ ?_
  ·rintro ⟨y217,y218⟩
   dsimp only [konst_parts_3d9d_j2]
   refine .g 8 rfl<|?_
   refine .weak ?_ (fun a w h=>Conc.gr_still kI h 4 1 34 y218 rfl rfl)
   exact .fi rfl rfl
  ·intro h115
   refine .g 1 rfl<|?_
   refine .lo (fun n (x:Int × Int × (List AI))=>konst_parts_3d9d_l3 a1 a5 a3 n x.1 x.2.1 x.2.2) (fun x=>([eP 0 0,(5,some (grA kI 1 x.2.2)),(32,some (.sl [[(.fn 52 [] []),(.int .i64 a0),(.int .i64 a1)],[(.fn 52 [] []),(.int .i64 a2),(.int .i64 a3)]])),eI 33 2,eI 34 x.1],[(0,(.live 45 [(.int .i64 x.2.1),(.int .i64 a5)])),(1,(grV kI 34 x.2.2))])) (0,y195,y196) rfl (fun hE=>jn (m:=1) [(0,0),(1,1)] hE (.p rfl rfl<|.g rfl (ren_gr (K:=kI) (by rfl) y196)<|.g rfl (ren_slL (.cons (.cons (ren_fnL _ .nil .nil)<|.i<|.i<|.nil) (.cons (.cons (ren_fnL _ .nil .nil)<|.i<|.i<|.nil) .nil)))<|.i rfl<|.i rfl<|.nil) (.v rfl (.i<|.i<|.nil)<|.cons (.refl _) (renV_gr (K:=kI) 34 y196)<|.nil) rfl) ?_
   rintro n3 ⟨y230,y231,y232⟩
   try dsimp only
   rw [konst_parts_3d9d_l3]
   refine .g 6 rfl<|?_
   refine .cd rfl (fun _ _=>?_) fun _ _=>?_
   ·refine .g 3 rfl<|?_
    refine .cut (fun x:Int × (List AI)=>(konst_parts_3d9d_j4 (fun z0 z1 z2=>konst_parts_3d9d_l3 a1 a5 a3 n3 z0 z1 z2) y230 x.1 x.2,[eP 0 0,(5,some (.row 1 kI.sz 0 ((x.2).length))),(32,some (.sl [[(.fn 52 [] []),(.int .i64 a0),(.int .i64 a1)],[(.fn 52 [] []),(.int .i64 a2),(.int .i64 a3)]])),eI 33 2,eI 34 y230],[(0,(.live 45 [(.int .i64 x.1),(.int .i64 a5)])),(1,(rwK kI 34 x.2))])) ?_ ?_
    ·rintro ⟨y235,y236⟩
     dsimp only [konst_parts_3d9d_j4]
     refine .g 5 rfl<|.guard fun h158=>?_
     refine .weak ?_ (fun a w h=>Conc.gr_row kI h 5 1 34 y236 rfl rfl (by first | omega | (simp only [List.length_append,List.length_cons,List.length_set]; omega) | simp))
     exact .ao ((IntKind.i64.wrap (y230+1)),y235,y236) rfl fun hE=>jn (m:=1) [(0,0),(1,1)] hE (.p rfl rfl<|.g rfl (ren_gr (K:=kI) (by rfl) y236)<|.g rfl (ren_slL (.cons (.cons (ren_fnL _ .nil .nil)<|.i<|.i<|.nil) (.cons (.cons (ren_fnL _ .nil .nil)<|.i<|.i<|.nil) .nil)))<|.i rfl<|.i rfl<|.nil) (.v rfl (.i<|.i<|.nil)<|.cons (.refl _) (renV_gr (K:=kI) 34 y236)<|.nil) rfl
    ·intro h159
     refine .g 4 rfl<|?_
     refine .ite (fun h160=>?_) (fun h160=>?_)
     ·refine .sv (.iptr [(.fn 52 [] []),(.int .i64 a0),(.int .i64 a1)]) [] rfl (snd_index_at 0 _ _ _ _ _ _ _ _ rfl underlying154 si126 rfl rfl rfl rfl (by intro e he; simp at he; rcases he with rfl | rfl<;>rfl) rfl h160 rfl) rfl<|.g 6 rfl<|.guard fun h161=>?_
      refine .weak ?_ (fun a w h=>Conc.gr_open1 kI h 5 1 y232 (by omega) rfl)
      refine .weak ?_ (fun a w h=>Conc.gr_openV kI h 1 34 y232 (by omega) rfl)
      refine .g 6 rfl<|.guard fun h162=>?_
      obtain ⟨h1621,h1622⟩:=h162
      refine .sv (.rptr 1 kI.sz y230.toNat 0) [] rfl (idx_r (snd_index_r _ _ _ _ _ 1 0 ((y232).length) _ y230 rfl underlying104 si34 rfl rfl rfl rfl h1621 (by omega)) (Nat.zero_add _)) rfl<|.sv (.agg (kI.enc (⟨⟨((((y232).getD y230.toNat zAI).Lo).M),(((y232).getD y230.toNat zAI).Lo).E⟩,⟨((((y232).getD y230.toNat zAI).Hi).M),(((y232).getD y230.toNat zAI).Hi).E⟩⟩:AI))) [] rfl (snd_loadK_agg kI _ _ 1 y230.toNat 0 6 _ _ rfl ag34 rfl rfl rfl rfl (by first | omega | (simp only [List.length_set]; omega)) (by decide)) rfl<|.g 2 rfl<|.bind fun x237 h163=>.st rfl (cl (CC.h h163) [0] [] [true] rfl (.p rfl<|.a kI<|.i<|.nil) (.p rfl (.i<|.i<|.nil) .nil) fnil (.cons (.v (.i<|.i<|.nil)) .nil) (ren_agg (K:=kI) _) (.turned .nil) rfl) rfl<|.guard fun h164=>?_
      obtain ⟨h1641,h1642⟩:=h164
      refine .sv (.rptr 1 kI.sz y230.toNat 0) [] rfl (idx_r (snd_index_r _ _ _ _ _ 1 0 ((y232).length) _ y230 rfl underlying104 si34 rfl rfl rfl rfl h1641 (by omega)) (Nat.zero_add _)) rfl<|.sm [(1,(rwK kI 34 ((y232).set y230.toNat (⟨⟨(((x237.1).Lo).M),((x237.1).Lo).E⟩,⟨(((x237.1).Hi).M),((x237.1).Hi).E⟩⟩:AI))))] rfl (snd_storeK_agg kI _ _ _ 1 y230.toNat _ _ (⟨⟨(((x237.1).Lo).M),((x237.1).Lo).E⟩,⟨(((x237.1).Hi).M),((x237.1).Hi).E⟩⟩:AI) rfl rfl ag34 rfl rfl rfl rfl (by first | omega | (simp only [List.length_set]; omega))) rfl<|.dn (by kernel_rfl)<|?_
      refine .weak ?_ (fun a w h=>Conc.relen h 5 ((((y232).set y230.toNat (⟨⟨(((x237.1).Lo).M),((x237.1).Lo).E⟩,⟨(((x237.1).Hi).M),((x237.1).Hi).E⟩⟩:AI))).length) rfl List.length_set.symm)
      refine .g 1 rfl<|.jw (h159 (x237.2,((y232).set y230.toNat (⟨⟨(((x237.1).Lo).M),((x237.1).Lo).E⟩,⟨(((x237.1).Hi).M),((x237.1).Hi).E⟩⟩:AI)))) [(0,0),(1,1)] rfl
     ·refine .ite (fun h165=>?_) (fun h165=>?_)
      ·refine .sv (.iptr [(.fn 52 [] []),(.int .i64 a2),(.int .i64 a3)]) [] rfl (snd_index_at 1 _ _ _ _ _ _ _ _ rfl underlying154 si126 rfl rfl rfl rfl (by intro e he; simp at he; rcases he with rfl | rfl<;>rfl) rfl h165 rfl) rfl<|.g 6 rfl<|.guard fun h166=>?_
       refine .weak ?_ (fun a w h=>Conc.gr_open1 kI h 5 1 y232 (by omega) rfl)
       refine .weak ?_ (fun a w h=>Conc.gr_openV kI h 1 34 y232 (by omega) rfl)
       refine .g 6 rfl<|.guard fun h167=>?_
       obtain ⟨h1671,h1672⟩:=h167
       refine .sv (.rptr 1 kI.sz y230.toNat 0) [] rfl (idx_r (snd_index_r _ _ _ _ _ 1 0 ((y232).length) _ y230 rfl underlying104 si34 rfl rfl rfl rfl h1671 (by omega)) (Nat.zero_add _)) rfl<|.sv (.agg (kI.enc (⟨⟨((((y232).getD y230.toNat zAI).Lo).M),(((y232).getD y230.toNat zAI).Lo).E⟩,⟨((((y232).getD y230.toNat zAI).Hi).M),(((y232).getD y230.toNat zAI).Hi).E⟩⟩:AI))) [] rfl (snd_loadK_agg kI _ _ 1 y230.toNat 0 6 _ _ rfl ag34 rfl rfl rfl rfl (by first | omega | (simp only [List.length_set]; omega)) (by decide)) rfl<|.g 2 rfl<|.bind fun x238 h168=>.st rfl (cl (CC.h h168) [0] [] [true] rfl (.p rfl<|.a kI<|.i<|.nil) (.p rfl (.i<|.i<|.nil) .nil) fnil (.cons (.v (.i<|.i<|.nil)) .nil) (ren_agg (K:=kI) _) (.turned .nil) rfl) rfl<|.guard fun h169=>?_
       obtain ⟨h1691,h1692⟩:=h169
       refine .sv (.rptr 1 kI.sz y230.toNat 0) [] rfl (idx_r (snd_index_r _ _ _ _ _ 1 0 ((y232).length) _ y230 rfl underlying104 si34 rfl rfl rfl rfl h1691 (by omega)) (Nat.zero_add _)) rfl<|.sm [(1,(rwK kI 34 ((y232).set y230.toNat (⟨⟨(((x238.1).Lo).M),((x238.1).Lo).E⟩,⟨(((x238.1).Hi).M),((x238.1).Hi).E⟩⟩:AI))))] rfl (snd_storeK_agg kI _ _ _ 1 y230.toNat _ _ (⟨⟨(((x238.1).Lo).M),((x238.1).Lo).E⟩,⟨(((x238.1).Hi).M),((x238.1).Hi).E⟩⟩:AI) rfl rfl ag34 rfl rfl rfl rfl (by first | omega | (simp only [List.length_set]; omega))) rfl<|.dn (by kernel_rfl)<|?_
       refine .weak ?_ (fun a w h=>Conc.relen h 5 ((((y232).set y230.toNat (⟨⟨(((x238.1).Lo).M),((x238.1).Lo).E⟩,⟨(((x238.1).Hi).M),((x238.1).Hi).E⟩⟩:AI))).length) rfl List.length_set.symm)
       refine .g 1 rfl<|.jw (h159 (x238.2,((y232).set y230.toNat (⟨⟨(((x238.1).Lo).M),((x238.1).Lo).E⟩,⟨(((x238.1).Hi).M),((x238.1).Hi).E⟩⟩:AI)))) [(0,0),(1,1)] rfl
      ·exact .no
   ·refine .g 4 rfl<|.jo (h115 (y231,y232)) rfl fun hE=>jn (m:=1) [(0,0),(1,1)] hE (.g rfl (ren_gr (K:=kI) (by rfl) y232)<|.nil) (.v rfl (.i<|.i<|.nil)<|.cons (.refl _) (renV_gr (K:=kI) 34 y232)<|.nil) rfl
 ·intro h170
  refine .g 1 rfl<|?_
  refine .weak ?_ (fun a w h=>Conc.gr_nil kI h 5 1 34 rfl)
  refine .lo (fun n (x:Int × Int × (List AI))=>konst_parts_3d9d_l5 a5 a0 a2 a1 a3 n x.1 x.2.1 x.2.2) (fun x=>([eP 0 0,(1,some (.sl [[(.fn 52 [] []),(.int .i64 a0),(.int .i64 a1)],[(.fn 52 [] []),(.int .i64 a2),(.int .i64 a3)]])),(5,some (grA kI 1 x.2.2)),(10,some (.sl [[(.fn 52 [] []),(.int .i64 a0),(.int .i64 a1)],[(.fn 52 [] []),(.int .i64 a2),(.int .i64 a3)]])),eI 11 2,eI 12 x.1],[(0,(.live 45 [(.int .i64 x.2.1),(.int .i64 a5)])),(1,(grV kI 34 x.2.2))])) (0,a4,[]) rfl (fun hE=>jn (m:=1) [(0,0),(1,1)] hE (.p rfl rfl<|.g rfl (ren_slL (.cons (.cons (ren_fnL _ .nil .nil)<|.i<|.i<|.nil) (.cons (.cons (ren_fnL _ .nil .nil)<|.i<|.i<|.nil) .nil)))<|.g rfl (ren_gr (K:=kI) (by rfl) [])<|.g rfl (ren_slL (.cons (.cons (ren_fnL _ .nil .nil)<|.i<|.i<|.nil) (.cons (.cons (ren_fnL _ .nil .nil)<|.i<|.i<|.nil) .nil)))<|.i rfl<|.i rfl<|.nil) (.v rfl (.i<|.i<|.nil)<|.cons (.refl _) (renV_gr (K:=kI) 34 [])<|.nil) rfl) ?_
  rintro n5 ⟨y268,y269,y270⟩
  try dsimp only
  rw [konst_parts_3d9d_l5]
  refine .g 6 rfl<|?_
  refine .cd rfl (fun _ _=>?_) fun _ _=>?_
  ·refine .g 3 rfl<|?_
   refine .cut (fun x:Int × (List AI)=>(konst_parts_3d9d_j6 (fun z0 z1 z2=>konst_parts_3d9d_l5 a5 a0 a2 a1 a3 n5 z0 z1 z2) y268 x.1 x.2,[eP 0 0,(1,some (.sl [[(.fn 52 [] []),(.int .i64 a0),(.int .i64 a1)],[(.fn 52 [] []),(.int .i64 a2),(.int .i64 a3)]])),(5,some (.row 3 kI.sz 0 ((x.2).length))),(10,some (.sl [[(.fn 52 [] []),(.int .i64 a0),(.int .i64 a1)],[(.fn 52 [] []),(.int .i64 a2),(.int .i64 a3)]])),eI 11 2,eI 12 y268],[(0,(.live 45 [(.int .i64 x.1),(.int .i64 a5)])),(3,(rwK kI 34 x.2))])) ?_ ?_
   ·rintro ⟨y279,y280⟩
    dsimp only [konst_parts_3d9d_j6]
    refine .g 5 rfl<|.guard fun h221=>?_
    refine .weak ?_ (fun a w h=>Conc.gr_row kI h 5 3 34 y280 rfl rfl (by first | omega | (simp only [List.length_append,List.length_cons,List.length_set]; omega) | simp))
    exact .ao ((IntKind.i64.wrap (y268+1)),y279,y280) rfl fun hE=>jn (m:=1) [(0,0),(3,1)] hE (.p rfl rfl<|.g rfl (ren_slL (.cons (.cons (ren_fnL _ .nil .nil)<|.i<|.i<|.nil) (.cons (.cons (ren_fnL _ .nil .nil)<|.i<|.i<|.nil) .nil)))<|.g rfl (ren_gr (K:=kI) (by rfl) y280)<|.g rfl (ren_slL (.cons (.cons (ren_fnL _ .nil .nil)<|.i<|.i<|.nil) (.cons (.cons (ren_fnL _ .nil .nil)<|.i<|.i<|.nil) .nil)))<|.i rfl<|.i rfl<|.nil) (.v rfl (.i<|.i<|.nil)<|.cons (.refl _) (renV_gr (K:=kI) 34 y280)<|.nil) rfl
   ·intro h222
    refine .g 3 rfl<|?_
    refine .ite (fun h223=>?_) (fun h223=>?_)
    ·refine .sv (.iptr [(.fn 52 [] []),(.int .i64 a0),(.int .i64 a1)]) [] rfl (snd_index_at 0 _ _ _ _ _ _ _ _ rfl underlying154 si126 rfl rfl rfl rfl (by intro e he; simp at he; rcases he with rfl | rfl<;>rfl) rfl h223 rfl) rfl<|.g 12 rfl<|.bind fun x281 h224=>.st rfl (cl (CC.h h224) [0] [] [true] rfl (.p rfl<|.i<|.nil) (.p rfl (.i<|.i<|.nil) .nil) fnil (.cons (.v (.i<|.i<|.nil)) .nil) (ren_agg (K:=kI) _) (.turned .nil) rfl) rfl<|.g 3 rfl<|.bind fun x282 h225=>.st rfl (cl (CC.h h225) [0] [] [true] rfl (.p rfl<|.i<|.nil) (.p rfl (.i<|.i<|.nil) .nil) fnil (.cons (.v (.i<|.i<|.nil)) .nil) (ren_agg (K:=kI) _) (.turned .nil) rfl) rfl<|.bind fun x283 h226=>.st rfl (cl (CC.h h226) [0] [] [true] rfl (.p rfl<|.a kI<|.a kI<|.nil) (.p rfl (.i<|.i<|.nil) .nil) fnil (.cons (.v (.i<|.i<|.nil)) .nil) (ren_agg (K:=kI) _) (.turned .nil) rfl) rfl<|.bind fun x284 h227=>.st rfl (cl (CC.h h227) [0] [] [true] rfl (.p rfl<|.a kI<|.nil) (.p rfl (.i<|.i<|.nil) .nil) fnil (.cons (.v (.i<|.i<|.nil)) .nil) (ren_agg (K:=kI) _) (.turned .nil) rfl) rfl<|.st rfl (bs kI [(⟨⟨(((x284.1).Lo).M),((x284.1).Lo).E⟩,⟨(((x284.1).Hi).M),((x284.1).Hi).E⟩⟩:AI)] rfl rfl) rfl<|.guard fun h228=>.sv (.row 3 kI.sz 0 (((y270++[(⟨⟨(((x284.1).Lo).M),((x284.1).Lo).E⟩,⟨(((x284.1).Hi).M),((x284.1).Hi).E⟩⟩:AI)])).length)) [(3,(rwK kI 34 (y270++[(⟨⟨(((x284.1).Lo).M),((x284.1).Lo).E⟩,⟨(((x284.1).Hi).M),((x284.1).Hi).E⟩⟩:AI)]))),(1,.dead)] rfl (snd_appendK_gr kI _ _ _ _ _ 1 3 y270 [(⟨⟨(((x284.1).Lo).M),((x284.1).Lo).E⟩,⟨(((x284.1).Hi).M),((x284.1).Hi).E⟩⟩:AI)] rfl underlying104 ze34 sb34 rfl rfl rfl rfl rfl rfl rfl h228) rfl<|?_
     refine .g 1 rfl<|.dn (by kernel_rfl)<|.g 1 rfl<|.jw (h222 (x284.2,(y270++[(⟨⟨(((x284.1).Lo).M),((x284.1).Lo).E⟩,⟨(((x284.1).Hi).M),((x284.1).Hi).E⟩⟩:AI)]))) [(0,0),(3,3)] rfl
    ·refine .ite (fun h229=>?_) (fun h229=>?_)
     ·refine .sv (.iptr [(.fn 52 [] []),(.int .i64 a2),(.int .i64 a3)]) [] rfl (snd_index_at 1 _ _ _ _ _ _ _ _ rfl underlying154 si126 rfl rfl rfl rfl (by intro e he; simp at he; rcases he with rfl | rfl<;>rfl) rfl h229 rfl) rfl<|.g 12 rfl<|.bind fun x285 h230=>.st rfl (cl (CC.h h230) [0] [] [true] rfl (.p rfl<|.i<|.nil) (.p rfl (.i<|.i<|.nil) .nil) fnil (.cons (.v (.i<|.i<|.nil)) .nil) (ren_agg (K:=kI) _) (.turned .nil) rfl) rfl<|.g 3 rfl<|.bind fun x286 h231=>.st rfl (cl (CC.h h231) [0] [] [true] rfl (.p rfl<|.i<|.nil) (.p rfl (.i<|.i<|.nil) .nil) fnil (.cons (.v (.i<|.i<|.nil)) .nil) (ren_agg (K:=kI) _) (.turned .nil) rfl) rfl<|.bind fun x287 h232=>.st rfl (cl (CC.h h232) [0] [] [true] rfl (.p rfl<|.a kI<|.a kI<|.nil) (.p rfl (.i<|.i<|.nil) .nil) fnil (.cons (.v (.i<|.i<|.nil)) .nil) (ren_agg (K:=kI) _) (.turned .nil) rfl) rfl<|.bind fun x288 h233=>.st rfl (cl (CC.h h233) [0] [] [true] rfl (.p rfl<|.a kI<|.nil) (.p rfl (.i<|.i<|.nil) .nil) fnil (.cons (.v (.i<|.i<|.nil)) .nil) (ren_agg (K:=kI) _) (.turned .nil) rfl) rfl<|.st rfl (bs kI [(⟨⟨(((x288.1).Lo).M),((x288.1).Lo).E⟩,⟨(((x288.1).Hi).M),((x288.1).Hi).E⟩⟩:AI)] rfl rfl) rfl<|.guard fun h234=>.sv (.row 3 kI.sz 0 (((y270++[(⟨⟨(((x288.1).Lo).M),((x288.1).Lo).E⟩,⟨(((x288.1).Hi).M),((x288.1).Hi).E⟩⟩:AI)])).length)) [(3,(rwK kI 34 (y270++[(⟨⟨(((x288.1).Lo).M),((x288.1).Lo).E⟩,⟨(((x288.1).Hi).M),((x288.1).Hi).E⟩⟩:AI)]))),(1,.dead)] rfl (snd_appendK_gr kI _ _ _ _ _ 1 3 y270 [(⟨⟨(((x288.1).Lo).M),((x288.1).Lo).E⟩,⟨(((x288.1).Hi).M),((x288.1).Hi).E⟩⟩:AI)] rfl underlying104 ze34 sb34 rfl rfl rfl rfl rfl rfl rfl h234) rfl<|?_
      refine .g 1 rfl<|.dn (by kernel_rfl)<|.g 1 rfl<|.jw (h222 (x288.2,(y270++[(⟨⟨(((x288.1).Lo).M),((x288.1).Lo).E⟩,⟨(((x288.1).Hi).M),((x288.1).Hi).E⟩⟩:AI)]))) [(0,0),(3,3)] rfl
     ·exact .no
  ·refine .g 4 rfl<|.jo (h170 (y269,y270)) rfl fun hE=>jn (m:=1) [(0,0),(1,1)] hE (.p rfl rfl<|.g rfl (ren_slL (.cons (.cons (ren_fnL _ .nil .nil)<|.i<|.i<|.nil) (.cons (.cons (ren_fnL _ .nil .nil)<|.i<|.i<|.nil) .nil)))<|.g rfl (ren_gr (K:=kI) (by rfl) y270)<|.nil) (.v rfl (.i<|.i<|.nil)<|.cons (.refl _) (renV_gr (K:=kI) 34 y270)<|.nil) rfl
instance cv_Sub_i (a0:AI) (a1:AI) (a2:Int) (a3:Int):CC (cv_Sub a0 a1 a2 a3) Tryz.prog 24 [(.ptr 0 0),(.agg (kI.enc a0)),(.agg (kI.enc a1))] [(.live 45 [(.int .i64 a2),(.int .i64 a3)])] (fun r=>(.agg (kI.enc (⟨⟨(((r.1).Lo).M),((r.1).Lo).E⟩,⟨(((r.1).Hi).M),((r.1).Hi).E⟩⟩:AI)))) (fun r=>[(.live 45 [(.int .i64 r.2),(.int .i64 a3)])]):=cc func24 (by kernel_rfl) rfl fun E=>by
 unfold cv_Sub
 refine .g 13 rfl<|.bind fun x3 h1=>.st rfl (cl (CC.h h1) [0] [] [true] rfl (.p rfl<|.a kI<|.nil) (.p rfl (.i<|.i<|.nil) .nil) fnil (.cons (.v (.i<|.i<|.nil)) .nil) (ren_agg (K:=kI) _) (.turned .nil) rfl) rfl<|.bind fun x4 h2=>.st rfl (cl (CC.h h2) [0] [] [true] rfl (.p rfl<|.a kI<|.a kI<|.nil) (.p rfl (.i<|.i<|.nil) .nil) fnil (.cons (.v (.i<|.i<|.nil)) .nil) (ren_agg (K:=kI) _) (.turned .nil) rfl) rfl<|.g 1 rfl<|.dn (by kernel_rfl)<|.g 2 rfl<|.fi rfl rfl
instance konst_Pi_i (a0:Int) (a1:Int):CC (konst_Pi a0 a1) Tryz.prog 62 [(.ptr 0 0)] [(.live 45 [(.int .i64 a0),(.int .i64 a1)])] (fun r=>(.agg (kI.enc (⟨⟨(((r.1).Lo).M),((r.1).Lo).E⟩,⟨(((r.1).Hi).M),((r.1).Hi).E⟩⟩:AI)))) (fun r=>[(.live 45 [(.int .i64 r.2),(.int .i64 a1)])]):=cc func62 (by kernel_rfl) rfl fun E=>by
 unfold konst_Pi
 refine .g 10 rfl<|.sv (.sl [[(.fn 52 [] []),(.int .i64 5),(.int .i64 4)],[(.fn 52 [] []),(.int .i64 239),(.int .i64 2)]]) [] rfl (snd_buildSlice _ _ _ 3 _ _ [(0,(.agg [(.fn 52 [] []),(.int .i64 5),(.int .i64 4)])),(1,(.agg [(.fn 52 [] []),(.int .i64 239),(.int .i64 2)]))] [[(.fn 52 [] []),(.int .i64 5),(.int .i64 4)],[(.fn 52 [] []),(.int .i64 239),(.int .i64 2)]] rfl underlying154 ze126 si126 rfl rfl rfl (by decide) (by decide) (by decide) rfl rfl (by intro e he; simp at he; rcases he with rfl | rfl<;>rfl) rfl) rfl<|.bind fun x3 h1=>.st rfl (cl (CC.h h1) [0] [] [true] rfl (.p rfl<|.cons (ren_slL (.cons (.cons (ren_fnL _ .nil .nil)<|.i<|.i<|.nil) (.cons (.cons (ren_fnL _ .nil .nil)<|.i<|.i<|.nil) .nil)))<|.nil) (.p rfl (.i<|.i<|.nil) .nil) fnil (.cons (.v (.i<|.i<|.nil)) .nil) (ren_sl _) (.turned .nil) rfl) rfl<|.g 7 rfl<|.ix rfl rfl<|.g 2 rfl<|.ix rfl rfl<|.g 1 rfl<|.bind fun x4 h4=>.st rfl (cl (CC.h h4) [0] [] [true] rfl (.p rfl<|.a kI<|.a kI<|.nil) (.p rfl (.i<|.i<|.nil) .nil) fnil (.cons (.v (.i<|.i<|.nil)) .nil) (ren_agg (K:=kI) _) (.turned .nil) rfl) rfl<|.g 1 rfl<|.dn (by kernel_rfl)<|.g 2 rfl<|.fi rfl rfl
instance r01_Trim_i (a0:List Int):PC (r01_Trim a0) Tryz.prog 153 [(slK (kInt .u32) a0)] (fun r=>(slK (kInt .u32) r)):=pc func153 (by kernel_rfl) rfl fun E=>by
 unfold r01_Trim
 refine .g 8 rfl<|.ln rfl rfl<|.g 4 rfl<|?_
 refine .cut (fun x:Int=>(r01_Trim_j1 a0 x,[eL 0 a0,eI 3 x],[])) ?_ ?_
 ·rintro y17
  dsimp only [r01_Trim_j1]
  refine .g 11 rfl<|.guard fun h19=>.sv (slK (kInt .u32) (a0.take y17.toNat)) [] rfl (snd_sliceK (kInt .u32) _ _ _ _ _ _ 0 y17 rfl underlying22 si77 rfl rfl rfl rfl rfl h19) rfl<|.guard fun h20=>.sv (grA (kInt .u32) 0 (a0.take y17.toNat)) [(0,(grV (kInt .u32) 77 (a0.take y17.toNat)))] rfl (snd_appendK_nil0 (kInt .u32) _ _ _ _ _ 0 (a0.take y17.toNat) rfl underlying22 ze77 sb77 rfl rfl rfl rfl rfl h20) rfl<|.g 4 rfl<|?_
  refine .weak ?_ (fun a w h=>Conc.gr_still (kInt .u32) h 2 0 77 (a0.take y17.toNat) rfl rfl)
  exact .fi rfl rfl
 ·intro h21
  refine .g 1 rfl<|?_
  refine .lp (fun n (x:Int)=>r01_Trim_l2 a0 n x) (fun x=>([eL 0 a0,eI 3 x],[])) (a0.length:Int) [] rfl ?_
  rintro n2 y21
  try dsimp only
  rw [r01_Trim_l2]
  refine .g 2 rfl<|?_
  refine .cut (fun x:Bool=>(r01_Trim_j3 (fun z0=>r01_Trim_l2 a0 n2 z0) y21 a0 x,[eL 0 a0,eI 3 y21,eB 16 x],[])) ?_ ?_
  ·rintro y22
   dsimp only [r01_Trim_j3]
   refine .g 1 rfl<|?_
   refine .cd rfl (fun _ _=>?_) fun _ _=>?_
   ·refine .g 9 rfl<|.ag (IntKind.i64.wrap (y21-1)) [] rfl
   ·refine .g 4 rfl<|.jw (h21 y21) [] rfl
  ·intro h38
   refine .g 4 rfl<|?_
   refine .gd 9 rfl (fun _=>?_) fun _=>?_
   ·refine .g 3 rfl<|.ix rfl rfl<|.g 4 rfl<|.jw (h38 ((a0.getD ((IntKind.i64.wrap (y21-1)).toNat) (kInt .u32).z) == 0)) [] rfl
   ·refine .g 8 rfl<|.jw (h38 false) [] rfl
instance r01_From_i (a0:Int):PC (r01_From a0) Tryz.prog 158 [(.int .u64 a0)] (fun r=>(slK (kInt .u32) r)):=pc func158 (by kernel_rfl) rfl fun E=>by
 unfold r01_From
 refine .g 2 rfl<|.st rfl (as0 rfl) rfl<|.g 9 rfl<|.st rfl (bs (kInt .u32) [(IntKind.u32.wrap a0),(IntKind.u32.wrap (shrI .u64 a0 32))] rfl rfl) rfl<|.p0 rfl rfl fun x2 _=>.g 4 rfl<|.fi rfl rfl
instance r04_Make_i (a0:Bool) (a1:List Int):PC (r04_Make a0 a1) Tryz.prog 103 [(.bool a0),(slK (kInt .u32) a1)] (fun r=>(.agg (kN.enc (r)))):=pc func103 (by kernel_rfl) rfl fun E=>by
 unfold r04_Make
 refine .g 8 rfl<|.p0 rfl rfl fun x3 _=>.g 4 rfl<|?_
 refine .cut (fun x:Bool=>(r04_Make_j1 x3 x,[eP 4 0],[(0,(.live 24 [(.bool x),(slK (kInt .u32) x3)]))])) ?_ ?_
 ·rintro y4
  dsimp only [r04_Make_j1]
  refine .g 2 rfl<|.fi rfl rfl
 ·intro h3
  refine .g 3 rfl<|?_
  refine .gd 9 rfl (fun _=>?_) fun _=>?_
  ·refine .g 1 rfl<|.ln rfl rfl<|.g 6 rfl<|.jw (h3 (decide ((x3.length:Int)>0))) [(0,0)] rfl
  ·refine .g 8 rfl<|.jw (h3 false) [(0,0)] rfl
instance r04_From_i (a0:Int):PC (r04_From a0) Tryz.prog 108 [(.int .i64 a0)] (fun r=>(.agg (kN.enc (r)))):=pc func108 (by kernel_rfl) rfl fun E=>by
 unfold r04_From
 refine .g 12 rfl<|?_
 refine .cd rfl (fun _ _=>?_) fun _ _=>?_
 ·refine .g 7 rfl<|.p0 rfl rfl fun x5 _=>.p0 rfl rfl fun x6 _=>.g 5 rfl<|.fi rfl rfl
 ·refine .g 6 rfl<|.p0 rfl rfl fun x7 _=>.p0 rfl rfl fun x8 _=>.g 4 rfl<|.fi rfl rfl
instance r01_Bit_i (a0:List Int) (a1:Int):PC (r01_Bit a0 a1) Tryz.prog 156 [(slK (kInt .u32) a0),(.int .i64 a1)] (fun r=>(.bool r)):=pc func156 (by kernel_rfl) rfl fun E=>by
 unfold r01_Bit
 refine .g 7 rfl<|?_
 refine .cut (fun x:Bool=>(r01_Bit_j1 a1 a0 x,[eL 0 a0,eI 1 a1,eB 13 x],[])) ?_ ?_
 ·rintro y2
  dsimp only [r01_Bit_j1]
  refine .g 1 rfl<|?_
  refine .cd rfl (fun _ _=>?_) fun _ _=>?_
  ·refine .g 7 rfl<|.fi rfl rfl
  ·refine .g 7 rfl<|.ix rfl rfl<|.g 3 rfl<|.guard fun h5=>.st rfl (snd_shr _ _ _ _ _ _ _ _ rfl rfl rfl rfl rfl h5) rfl<|.g 6 rfl<|.fi rfl rfl
 ·intro h6
  refine .g 4 rfl<|?_
  refine .gd 7 rfl (fun _=>?_) fun _=>?_
  ·refine .g 7 rfl<|.jw (h6 true) [] rfl
  ·refine .g 3 rfl<|.ln rfl rfl<|.g 3 rfl<|.jw (h6 (decide ((IntKind.i64.wrap (a1.tdiv 32))≥(a0.length:Int)))) [] rfl
instance r01_at_i (a0:List Int) (a1:Int):PC (r01_at a0 a1) Tryz.prog 191 [(slK (kInt .u32) a0),(.int .i64 a1)] (fun r=>(.int .u64 r)):=pc func191 (by kernel_rfl) rfl fun E=>by
 unfold r01_at
 refine .g 10 rfl<|.ln rfl rfl<|.g 3 rfl<|?_
 refine .cd rfl (fun _ _=>?_) fun _ _=>?_
 ·refine .g 7 rfl<|.fi rfl rfl
 ·refine .g 6 rfl<|.ix rfl rfl<|.g 6 rfl<|.fi rfl rfl
instance r01_Shr_i (a0:List Int) (a1:Int):PC (r01_Shr a0 a1) Tryz.prog 157 [(slK (kInt .u32) a0),(.int .i64 a1)] (fun r=>(slK (kInt .u32) r)):=pc func157 (by kernel_rfl) rfl fun E=>by
 unfold r01_Shr
 refine .g 12 rfl<|?_
 refine .cd rfl (fun _ _=>?_) fun _ _=>?_
 ·refine .g 3 rfl<|.p0 rfl rfl fun x36 _=>.g 5 rfl<|.fi rfl rfl
 ·refine .g 8 rfl<|.ln rfl rfl<|.g 3 rfl<|?_
  refine .cd rfl (fun _ _=>?_) fun _ _=>?_
  ·refine .g 7 rfl<|.fj rfl rfl AVle.nil
  ·refine .g 15 rfl<|?_
   refine .cut (fun x:(List Int)=>(r01_Shr_j1 x,[(5,some (grA (kInt .u32) 0 x))],[(0,(grV (kInt .u32) 77 x))])) ?_ ?_
   ·rintro y53
    dsimp only [r01_Shr_j1]
    refine .g 2 rfl<|?_
    refine .weak ?_ (fun a w h=>Conc.gr_still (kInt .u32) h 5 0 77 y53 rfl rfl)
    refine .g 2 rfl<|.p0 rfl rfl fun x54 _=>.g 4 rfl<|.fi rfl rfl
   ·intro h37
    refine .g 1 rfl<|?_
    refine .weak ?_ (fun a w h=>Conc.gr_nil (kInt .u32) h 5 0 77 rfl)
    refine .lo (fun n (x:Int × (List Int))=>r01_Shr_l2 a0 a1 n x.1 x.2) (fun x=>([eL 0 a0,eI 1 a1,(5,some (grA (kInt .u32) 0 x.2)),eI 6 x.1],[(0,(grV (kInt .u32) 77 x.2))])) ((IntKind.i64.wrap (a1.tdiv 32)),[]) rfl (fun hE=>jn (m:=0) [(0,0)] hE (.l rfl<|.i rfl<|.g rfl (ren_gr (K:=(kInt .u32)) (by rfl) [])<|.i rfl<|.nil) (.cons (.refl _) (renV_gr (K:=(kInt .u32)) 77 [])<|.nil) rfl) ?_
    rintro n2 ⟨y65,y66⟩
    try dsimp only
    rw [r01_Shr_l2]
    refine .g 5 rfl<|.ln rfl rfl<|.g 3 rfl<|?_
    refine .cd rfl (fun _ _=>?_) fun _ _=>?_
    ·refine .g 8 rfl<|.p0 rfl rfl fun x69 _=>.g 3 rfl<|.p0 rfl rfl fun x70 _=>.g 10 rfl<|.guard fun h66=>.st rfl (snd_shr _ _ _ _ _ _ _ _ rfl rfl rfl rfl rfl h66) rfl<|.g 1 rfl<|.st rfl (bs (kInt .u32) [(IntKind.u32.wrap (shrI .u64 (orI .u64 x69 (shlI .u64 x70 32)) (a1.tmod 32)))] rfl rfl) rfl<|.guard fun h67=>.sv (.row 1 (kInt .u32).sz 0 (((y66++[(IntKind.u32.wrap (shrI .u64 (orI .u64 x69 (shlI .u64 x70 32)) (a1.tmod 32)))])).length)) [(1,(rwK (kInt .u32) 77 (y66++[(IntKind.u32.wrap (shrI .u64 (orI .u64 x69 (shlI .u64 x70 32)) (a1.tmod 32)))]))),(0,.dead)] rfl (snd_appendK_gr (kInt .u32) _ _ _ _ _ 0 1 y66 [(IntKind.u32.wrap (shrI .u64 (orI .u64 x69 (shlI .u64 x70 32)) (a1.tmod 32)))] rfl underlying22 ze77 sb77 rfl rfl rfl rfl rfl rfl rfl h67) rfl<|.g 9 rfl<|?_
     refine .weak ?_ (fun a w h=>Conc.gr_row (kInt .u32) h 5 1 77 (y66++[(IntKind.u32.wrap (shrI .u64 (orI .u64 x69 (shlI .u64 x70 32)) (a1.tmod 32)))]) rfl rfl (by first | omega | (simp only [List.length_append,List.length_cons,List.length_set]; omega) | simp))
     exact .ao ((IntKind.i64.wrap (y65+1)),(y66++[(IntKind.u32.wrap (shrI .u64 (orI .u64 x69 (shlI .u64 x70 32)) (a1.tmod 32)))])) rfl fun hE=>jn (m:=0) [(1,0)] hE (.l rfl<|.i rfl<|.g rfl (ren_gr (K:=(kInt .u32)) (by rfl) (y66++[(IntKind.u32.wrap (shrI .u64 (orI .u64 x69 (shlI .u64 x70 32)) (a1.tmod 32)))]))<|.i rfl<|.nil) (.cons (.refl _) (renV_gr (K:=(kInt .u32)) 77 (y66++[(IntKind.u32.wrap (shrI .u64 (orI .u64 x69 (shlI .u64 x70 32)) (a1.tmod 32)))]))<|.nil) rfl
    ·refine .g 4 rfl<|.jo (h37 y66) rfl fun hE=>jn (m:=0) [(0,0)] hE (.g rfl (ren_gr (K:=(kInt .u32)) (by rfl) y66)<|.nil) (.cons (.refl _) (renV_gr (K:=(kInt .u32)) 77 y66)<|.nil) rfl
instance r05_norm_i (a0:ApiInt) (a1:Int):PC (r05_norm a0 a1) Tryz.prog 107 [(.agg (kN.enc a0)),(.int .i64 a1)] (fun r=>(.agg (kD.enc (⟨((r).M),(r).E⟩:AD)))):=pc func107 (by kernel_rfl) rfl fun E=>by
 unfold r05_norm
 refine .g 12 rfl<|.p0 rfl rfl fun x15 _=>.g 9 rfl<|.ln rfl rfl<|.g 3 rfl<|?_
 refine .cd rfl (fun _ _=>?_) fun _ _=>?_
 ·refine .g 8 rfl<|.fi rfl rfl
 ·refine .g 8 rfl<|?_
  refine .cut (fun x:Int=>(r05_norm_j1 x15 a1 x,[eI 1 a1,eP 4 1,eP 5 2,eI 6 x],[(1,(.live 26 [(.bool false),(slK (kInt .u32) []),(.int .i64 0)])),(2,(.live 24 [(.bool ((x15).Neg)),(slK (kInt .u32) ((x15).Mag))]))])) ?_ ?_
  ·rintro y21
   dsimp only [r05_norm_j1]
   refine .g 8 rfl<|.p0 rfl rfl fun x22 _=>.p0 rfl rfl fun x23 _=>.g 5 rfl<|.dn (by kernel_rfl)<|.g 2 rfl<|.fi rfl rfl
  ·intro h15
   refine .g 1 rfl<|?_
   refine .lp (fun n (x:Int)=>r05_norm_l2 x15 a1 n x) (fun x=>([eI 1 a1,eP 4 1,eP 5 2,eI 6 x],[(1,(.live 26 [(.bool false),(slK (kInt .u32) []),(.int .i64 0)])),(2,(.live 24 [(.bool ((x15).Neg)),(slK (kInt .u32) ((x15).Mag))]))])) 0 [(1,1),(2,2)] rfl ?_
   rintro n2 y27
   try dsimp only
   rw [r05_norm_l2]
   refine .g 6 rfl<|.p0 rfl rfl fun x28 _=>.g 3 rfl<|?_
   refine .cd rfl (fun _ _=>?_) fun _ _=>?_
   ·refine .g 9 rfl<|.ag (IntKind.i64.wrap (y27+1)) [(1,1),(2,2)] rfl
   ·refine .g 4 rfl<|.jw (h15 y27) [(1,1),(2,2)] rfl
instance r05_From_i (a0:Int):PC (r05_From a0) Tryz.prog 44 [(.int .i64 a0)] (fun r=>(.agg (kD.enc (⟨((r).M),(r).E⟩:AD)))):=pc func44 (by kernel_rfl) rfl fun E=>by
 unfold r05_From
 refine .g 8 rfl<|.p0 rfl rfl fun x3 _=>.p0 rfl rfl fun x4 _=>.g 4 rfl<|.fi rfl rfl
instance r04_Right_i (a0:ApiInt):PC (r04_Right a0) Tryz.prog 181 [(.agg (kN.enc a0))] (fun r=>(.bool r)):=pc func181 (by kernel_rfl) rfl fun E=>by
 unfold r04_Right
 refine .g 10 rfl<|.ln rfl rfl<|.g 4 rfl<|?_
 refine .cut (fun x:Bool=>(r04_Right_j1 x,[eB 2 x],[])) ?_ ?_
 ·rintro y2
  dsimp only [r04_Right_j1]
  refine .g 2 rfl<|.fi rfl rfl
 ·intro h7
  refine .g 4 rfl<|?_
  refine .gd 9 rfl (fun _=>?_) fun _=>?_
  ·refine .g 5 rfl<|?_
   refine .gd 14 rfl (fun _=>?_) fun _=>?_
   ·refine .g 14 rfl<|.jw (h7 true) [] rfl
   ·refine .g 3 rfl<|?_
    refine .gd 17 rfl (fun _=>?_) fun _=>?_
    ·refine .g 4 rfl<|.ix rfl rfl<|.g 6 rfl<|.jw (h7 ((a0.Mag.getD ((IntKind.i64.wrap ((a0.Mag.length:Int)-1)).toNat) (kInt .u32).z) != 0)) [] rfl
    ·refine .g 11 rfl<|.jw (h7 false) [] rfl
  ·refine .g 8 rfl<|?_
   refine .gd 17 rfl (fun _=>?_) fun _=>?_
   ·refine .g 4 rfl<|.ix rfl rfl<|.g 6 rfl<|.jw (h7 ((a0.Mag.getD ((IntKind.i64.wrap ((a0.Mag.length:Int)-1)).toNat) (kInt .u32).z) != 0)) [] rfl
   ·refine .g 11 rfl<|.jw (h7 false) [] rfl
instance r05_Right_i (a0:AD):PC (r05_Right a0) Tryz.prog 130 [(.agg (kD.enc a0))] (fun r=>(.bool r)):=pc func130 (by kernel_rfl) rfl fun E=>by
 unfold r05_Right
 refine .g 10 rfl<|.p0 rfl rfl fun x3 _=>.g 10 rfl<|?_
 refine .cd rfl (fun _ _=>?_) fun _ _=>?_
 ·refine .g 7 rfl<|.fi rfl rfl
 ·refine .g 8 rfl<|.ln rfl rfl<|.g 3 rfl<|?_
  refine .cd rfl (fun _ _=>?_) fun _ _=>?_
  ·refine .g 10 rfl<|.fi rfl rfl
  ·refine .g 3 rfl<|?_
   refine .cut (fun x:Bool=>(r05_Right_j1 x,[eB 2 x],[])) ?_ ?_
   ·rintro y4
    dsimp only [r05_Right_j1]
    refine .g 2 rfl<|.fi rfl rfl
   ·intro h9
    refine .g 4 rfl<|.ix rfl rfl<|.g 4 rfl<|?_
    refine .gd 24 rfl (fun _=>?_) fun _=>?_
    ·refine .g 5 rfl<|?_
     refine .gd 29 rfl (fun _=>?_) fun _=>?_
     ·refine .g 6 rfl<|.jw (h9 (decide (a0.E≤131072))) [] rfl
     ·refine .g 6 rfl<|.jw (h9 false) [] rfl
    ·refine .g 11 rfl<|.jw (h9 false) [] rfl
instance r01_Cmp_i (a0:List Int) (a1:List Int):PC (r01_Cmp a0 a1) Tryz.prog 182 [(slK (kInt .u32) a0),(slK (kInt .u32) a1)] (fun r=>(.int .i64 r)):=pc func182 (by kernel_rfl) rfl fun E=>by
 unfold r01_Cmp
 refine .g 9 rfl<|.ln rfl rfl<|.g 1 rfl<|.ln rfl rfl<|.g 5 rfl<|?_
 refine .cut (fun x:Unit=>(r01_Cmp_j1,[],[])) ?_ ?_
 ·rintro _
  dsimp only [r01_Cmp_j1]
  refine .g 7 rfl<|.fi rfl rfl
 ·intro h55
  refine .g 1 rfl<|?_
  refine .lp (fun n (x:Int)=>r01_Cmp_l2 a0 a1 n x) (fun x=>([eL 0 a0,eL 1 a1,eI 5 x],[])) (IntKind.i64.wrap ((mx (a0.length:Int) (a1.length:Int))-1)) [] rfl ?_
  rintro n2 y96
  try dsimp only
  rw [r01_Cmp_l2]
  refine .g 7 rfl<|?_
  refine .cd rfl (fun _ _=>?_) fun _ _=>?_
  ·refine .g 9 rfl<|.p0 rfl rfl fun x101 _=>.g 2 rfl<|.p0 rfl rfl fun x102 _=>.g 3 rfl<|?_
   refine .cd rfl (fun _ _=>?_) fun _ _=>?_
   ·refine .g 12 rfl<|.fi rfl rfl
   ·refine .g 6 rfl<|.p0 rfl rfl fun x103 _=>.g 2 rfl<|.p0 rfl rfl fun x104 _=>.g 3 rfl<|?_
    refine .cd rfl (fun _ _=>?_) fun _ _=>?_
    ·refine .g 11 rfl<|.fi rfl rfl
    ·refine .g 8 rfl<|.ag (IntKind.i64.wrap (y96-1)) [] rfl
  ·refine .g 4 rfl<|.jw (h55 ()) [] rfl
instance r04_Cmp_i (a0:ApiInt) (a1:ApiInt):PC (r04_Cmp a0 a1) Tryz.prog 131 [(.agg (kN.enc a0)),(.agg (kN.enc a1))] (fun r=>(.int .i64 r)):=pc func131 (by kernel_rfl) rfl fun E=>by
 unfold r04_Cmp
 refine .g 13 rfl<|.p0 rfl rfl fun x10 _=>.g 10 rfl<|.p0 rfl rfl fun x11 _=>.g 7 rfl<|?_
 refine .cut (fun x:Bool=>(r04_Cmp_j1 x10 x11 x,[eP 5 2,eP 6 3,eB 17 x],[(2,(.live 24 [(.bool ((x10).Neg)),(slK (kInt .u32) ((x10).Mag))])),(3,(.live 24 [(.bool ((x11).Neg)),(slK (kInt .u32) ((x11).Mag))]))])) ?_ ?_
 ·rintro y15
  dsimp only [r04_Cmp_j1]
  refine .g 1 rfl<|?_
  refine .cd rfl (fun _ _=>?_) fun _ _=>?_
  ·refine .g 8 rfl<|.fi rfl rfl
  ·refine .g 1 rfl<|?_
   refine .cut (fun x:Bool=>(r04_Cmp_j2 x10 x11 x,[eP 5 2,eP 6 3,eB 25 x],[(2,(.live 24 [(.bool ((x10).Neg)),(slK (kInt .u32) ((x10).Mag))])),(3,(.live 24 [(.bool ((x11).Neg)),(slK (kInt .u32) ((x11).Mag))]))])) ?_ ?_
   ·rintro y16
    dsimp only [r04_Cmp_j2]
    refine .g 1 rfl<|?_
    refine .cd rfl (fun _ _=>?_) fun _ _=>?_
    ·refine .g 8 rfl<|.fi rfl rfl
    ·refine .g 7 rfl<|?_
     refine .cd rfl (fun _ _=>?_) fun _ _=>?_
     ·refine .g 6 rfl<|.p0 rfl rfl fun x17 _=>.g 6 rfl<|.fi rfl rfl
     ·refine .g 9 rfl<|.p0 rfl rfl fun x18 _=>.g 4 rfl<|.fi rfl rfl
   ·intro h24
    refine .g 5 rfl<|?_
    refine .gd 29 rfl (fun _=>?_) fun _=>?_
    ·refine .g 5 rfl<|.jw (h24 (x11).Neg) [(2,2),(3,3)] rfl
    ·refine .g 5 rfl<|.jw (h24 false) [(2,2),(3,3)] rfl
 ·intro h26
  refine .g 4 rfl<|?_
  refine .gd 20 rfl (fun _=>?_) fun _=>?_
  ·refine .g 6 rfl<|.jw (h26 (!((x11).Neg))) [(2,2),(3,3)] rfl
  ·refine .g 6 rfl<|.jw (h26 false) [(2,2),(3,3)] rfl
instance r01_Bits_i (a0:List Int):PC (r01_Bits a0) Tryz.prog 183 [(slK (kInt .u32) a0)] (fun r=>(.int .i64 r)):=pc func183 (by kernel_rfl) rfl fun E=>by
 unfold r01_Bits
 refine .g 8 rfl<|.p0 rfl rfl fun x11 _=>.g 7 rfl<|.ln rfl rfl<|.g 3 rfl<|?_
 refine .cd rfl (fun _ _=>?_) fun _ _=>?_
 ·refine .g 7 rfl<|.fi rfl rfl
 ·refine .g 5 rfl<|.ln rfl rfl<|.g 10 rfl<|.ln rfl rfl<|.g 1 rfl<|.ix rfl rfl<|.g 4 rfl<|?_
  refine .cut (fun x:Int=>(r01_Bits_j1 x,[eI 4 x],[])) ?_ ?_
  ·rintro y16
   dsimp only [r01_Bits_j1]
   refine .g 8 rfl<|.fi rfl rfl
  ·intro h11
   refine .g 1 rfl<|?_
   refine .lp (fun n (x:Int × Int)=>r01_Bits_l2 n x.1 x.2) (fun x=>([eI 4 x.1,eW 5 x.2],[])) ((IntKind.i64.wrap (32*(IntKind.i64.wrap ((x11.length:Int)-1)))),(x11.getD ((IntKind.i64.wrap ((x11.length:Int)-1)).toNat) (kInt .u32).z)) [] rfl ?_
   rintro n2 ⟨y19,y20⟩
   try dsimp only
   rw [r01_Bits_l2]
   refine .g 7 rfl<|?_
   refine .cd rfl (fun _ _=>?_) fun _ _=>?_
   ·refine .g 16 rfl<|.ag ((IntKind.i64.wrap (y19+1)),(shrI .u32 y20 1)) [] rfl
   ·refine .g 4 rfl<|.jw (h11 y19) [] rfl
instance r05_size_i (a0:AD):PC (r05_size a0) Tryz.prog 132 [(.agg (kD.enc a0))] (fun r=>(.int .i64 r)):=pc func132 (by kernel_rfl) rfl fun E=>by
 unfold r05_size
 refine .g 13 rfl<|.p0 rfl rfl fun x2 _=>.g 2 rfl<|.dn (by kernel_rfl)<|.g 2 rfl<|.fi rfl rfl
instance r01_Shl_i (a0:List Int) (a1:Int):PC (r01_Shl a0 a1) Tryz.prog 205 [(slK (kInt .u32) a0),(.int .i64 a1)] (fun r=>(.tup [(slK (kInt .u32) r.1),(.bool r.2)])):=pc func205 (by kernel_rfl) rfl fun E=>by
 unfold r01_Shl
 refine .g 8 rfl<|?_
 refine .cut (fun x:Bool=>(r01_Shl_j1 a1 a0 x,[eL 0 a0,eI 1 a1,eB 15 x],[])) ?_ ?_
 ·rintro y17
  dsimp only [r01_Shl_j1]
  refine .g 1 rfl<|?_
  refine .cd rfl (fun _ _=>?_) fun _ _=>?_
  ·refine .g 8 rfl<|.fj rfl rfl (.tup (.cons AVle.nil (.cons (AVle.refl _) .nil)))
  ·refine .g 6 rfl<|.guard fun h4=>.sv (.row 0 (kInt .u32).sz 0 (((List.replicate ((IntKind.i64.wrap (a1.tdiv 32)).toNat) (kInt .u32).z)).length)) [(0,(rwK (kInt .u32) 77 (List.replicate ((IntKind.i64.wrap (a1.tdiv 32)).toNat) (kInt .u32).z)))] rfl (snd_makeK (kInt .u32) _ _ _ _ _ 0 _ _ _ rfl underlying22 ze77 sb77 (by decide) rfl rfl rfl rfl rfl h4) rfl<|.g 14 rfl<|?_
   refine .cut (fun x:Int × (List Int)=>(r01_Shl_j2 x.1 x.2,[(6,some (.row 0 (kInt .u32).sz 0 ((x.2).length))),eX 7 x.1],[(0,(rwK (kInt .u32) 77 x.2))])) ?_ ?_
   ·rintro ⟨y24,y25⟩
    dsimp only [r01_Shl_j2]
    refine .g 6 rfl<|.st rfl (bs (kInt .u32) [(IntKind.u32.wrap y24)] rfl rfl) rfl<|.guard fun h29=>.sv (.row 1 (kInt .u32).sz 0 (((y25++[(IntKind.u32.wrap y24)])).length)) [(1,(rwK (kInt .u32) 77 (y25++[(IntKind.u32.wrap y24)]))),(0,.dead)] rfl (snd_appendK (kInt .u32) _ _ _ _ _ 0 1 y25 [(IntKind.u32.wrap y24)] rfl underlying22 ze77 sb77 rfl rfl rfl rfl rfl rfl h29) rfl<|?_
    refine .weak ?_ (fun a w h=>Conc.freezeK (kInt .u32) h 46 1 0 (((y25++[(IntKind.u32.wrap y24)])).length) 77 (y25++[(IntKind.u32.wrap y24)]) rfl rfl (by omega))
    refine .weak ?_ (fun a w h=>take_all h)
    refine .p0 rfl rfl fun x26 _=>.g 5 rfl<|.fi rfl rfl
   ·intro h31
    refine .g 1 rfl<|?_
    refine .lp (fun n (x:Int × Int × (List Int))=>r01_Shl_l3 a0 a1 n x.1 x.2.1 x.2.2) (fun x=>([eL 0 a0,eI 1 a1,(6,some (.row 0 (kInt .u32).sz 0 ((x.2.2).length))),eX 7 x.1,eI 8 x.2.1],[(0,(rwK (kInt .u32) 77 x.2.2))])) (0,0,(List.replicate ((IntKind.i64.wrap (a1.tdiv 32)).toNat) (kInt .u32).z)) [(0,0)] rfl ?_
    rintro n3 ⟨y30,y31,y32⟩
    try dsimp only
    rw [r01_Shl_l3]
    refine .g 5 rfl<|.ln rfl rfl<|.g 3 rfl<|?_
    refine .cd rfl (fun _ _=>?_) fun _ _=>?_
    ·refine .g 8 rfl<|.ix rfl rfl<|.g 4 rfl<|.guard fun h54=>.st rfl (snd_shl _ _ _ _ _ _ _ _ rfl rfl rfl rfl rfl h54) rfl<|.g 10 rfl<|.st rfl (bs (kInt .u32) [(IntKind.u32.wrap (orI .u64 (shlI .u64 (IntKind.u64.wrap (a0.getD y31.toNat (kInt .u32).z)) (a1.tmod 32)) y30))] rfl rfl) rfl<|.guard fun h55=>.sv (.row 1 (kInt .u32).sz 0 (((y32++[(IntKind.u32.wrap (orI .u64 (shlI .u64 (IntKind.u64.wrap (a0.getD y31.toNat (kInt .u32).z)) (a1.tmod 32)) y30))])).length)) [(1,(rwK (kInt .u32) 77 (y32++[(IntKind.u32.wrap (orI .u64 (shlI .u64 (IntKind.u64.wrap (a0.getD y31.toNat (kInt .u32).z)) (a1.tmod 32)) y30))]))),(0,.dead)] rfl (snd_appendK (kInt .u32) _ _ _ _ _ 0 1 y32 [(IntKind.u32.wrap (orI .u64 (shlI .u64 (IntKind.u64.wrap (a0.getD y31.toNat (kInt .u32).z)) (a1.tmod 32)) y30))] rfl underlying22 ze77 sb77 rfl rfl rfl rfl rfl rfl h55) rfl<|.g 15 rfl<|.ag ((shrI .u64 (orI .u64 (shlI .u64 (IntKind.u64.wrap (a0.getD y31.toNat (kInt .u32).z)) (a1.tmod 32)) y30) 32),(IntKind.i64.wrap (y31+1)),(y32++[(IntKind.u32.wrap (orI .u64 (shlI .u64 (IntKind.u64.wrap (a0.getD y31.toNat (kInt .u32).z)) (a1.tmod 32)) y30))])) [(1,0)] rfl
    ·refine .g 4 rfl<|.jw (h31 (y30,y32)) [(0,0)] rfl
 ·intro h56
  refine .g 4 rfl<|?_
  refine .gd 12 rfl (fun _=>?_) fun _=>?_
  ·refine .g 4 rfl<|.jw (h56 true) [] rfl
  ·refine .g 4 rfl<|.jw (h56 (decide (a1>100000))) [] rfl
instance r05_up_i (a0:ApiInt) (a1:Int):PC (r05_up a0 a1) Tryz.prog 184 [(.agg (kN.enc a0)),(.int .i64 a1)] (fun r=>(.agg (kN.enc (r)))):=pc func184 (by kernel_rfl) rfl fun E=>by
 unfold r05_up
 refine .g 14 rfl<|?_
 refine .cut (fun x:(List Int)=>(r05_up_j1 a0 x,[eP 2 0,eP 4 1,eL 5 x],[(0,(.live 24 [(.bool a0.Neg),(slK (kInt .u32) a0.Mag)])),(1,(.live 24 [(.bool false),(slK (kInt .u32) [])]))])) ?_ ?_
 ·rintro y33
  dsimp only [r05_up_j1]
  refine .g 6 rfl<|.p0 rfl rfl fun x34 _=>.g 4 rfl<|.fi rfl rfl
 ·intro h14
  refine .g 1 rfl<|?_
  refine .lp (fun n (x:Int × (List Int))=>r05_up_l2 a0 n x.1 x.2) (fun x=>([eI 1 x.1,eP 2 0,eP 4 1,eL 5 x.2],[(0,(.live 24 [(.bool a0.Neg),(slK (kInt .u32) a0.Mag)])),(1,(.live 24 [(.bool false),(slK (kInt .u32) [])]))])) (a1,a0.Mag) [(0,0),(1,1)] rfl ?_
  rintro n2 ⟨y41,y42⟩
  try dsimp only
  rw [r05_up_l2]
  refine .g 7 rfl<|?_
  refine .cd rfl (fun _ _=>?_) fun _ _=>?_
  ·refine .g 14 rfl<|.p0 rfl rfl fun x44 _=>.g 13 rfl<|.ag ((IntKind.i64.wrap (y41-(mn y41 100000))),x44.1) [(0,0),(1,1)] rfl
  ·refine .g 4 rfl<|.jw (h14 y42) [(0,0),(1,1)] rfl
instance r05_lift_i (a0:AD) (a1:AD):PC (r05_lift a0 a1) Tryz.prog 133 [(.agg (kD.enc a0)),(.agg (kD.enc a1))] (fun r=>(.tup [(.agg (kN.enc (r.1))),(.agg (kN.enc (r.2.1))),(.int .i64 r.2.2)])):=pc func133 (by kernel_rfl) rfl fun E=>by
 unfold r05_lift
 refine .g 16 rfl<|.ln rfl rfl<|.g 4 rfl<|?_
 refine .cd rfl (fun _ _=>?_) fun _ _=>?_
 ·refine .g 10 rfl<|.dn (by kernel_rfl)<|.g 4 rfl<|.fi rfl rfl
 ·refine .g 5 rfl<|.ln rfl rfl<|.g 4 rfl<|?_
  refine .cd rfl (fun _ _=>?_) fun _ _=>?_
  ·refine .g 10 rfl<|.dn (by kernel_rfl)<|.g 4 rfl<|.fi rfl rfl
  ·refine .g 10 rfl<|?_
   refine .cd rfl (fun _ _=>?_) fun _ _=>?_
   ·refine .g 9 rfl<|.p0 rfl rfl fun x5 _=>.g 7 rfl<|.dn (by kernel_rfl)<|.g 4 rfl<|.fi rfl rfl
   ·refine .g 14 rfl<|.p0 rfl rfl fun x6 _=>.g 5 rfl<|.dn (by kernel_rfl)<|.g 2 rfl<|.fi rfl rfl
instance r05_Cmp_i (a0:AD) (a1:AD):PC (r05_Cmp a0 a1) Tryz.prog 74 [(.agg (kD.enc a0)),(.agg (kD.enc a1))] (fun r=>(.int .i64 r)):=pc func74 (by kernel_rfl) rfl fun E=>by
 unfold r05_Cmp
 refine .g 10 rfl<|.p0 rfl rfl fun x12 _=>.g 6 rfl<|.p0 rfl rfl fun x13 _=>.g 5 rfl<|?_
 refine .cut (fun x:Bool=>(r05_Cmp_j1 a0 a1 x,[eP 2 0,eP 3 1,eB 19 x],[(0,(.live 26 [(.bool a0.M.Neg),(slK (kInt .u32) a0.M.Mag),(.int .i64 a0.E)])),(1,(.live 26 [(.bool a1.M.Neg),(slK (kInt .u32) a1.M.Mag),(.int .i64 a1.E)]))])) ?_ ?_
 ·rintro y14
  dsimp only [r05_Cmp_j1]
  refine .g 1 rfl<|?_
  refine .cd rfl (fun _ _=>?_) fun _ _=>?_
  ·refine .g 7 rfl<|.fi rfl rfl
  ·refine .g 4 rfl<|?_
   refine .cut (fun x:Bool=>(r05_Cmp_j2 a0 a1 x,[eP 2 0,eP 3 1,eB 40 x],[(0,(.live 26 [(.bool a0.M.Neg),(slK (kInt .u32) a0.M.Mag),(.int .i64 a0.E)])),(1,(.live 26 [(.bool a1.M.Neg),(slK (kInt .u32) a1.M.Mag),(.int .i64 a1.E)]))])) ?_ ?_
   ·rintro y15
    dsimp only [r05_Cmp_j2]
    refine .g 1 rfl<|?_
    refine .cd rfl (fun _ _=>?_) fun _ _=>?_
    ·refine .g 6 rfl<|.p0 rfl rfl fun x16 _=>.g 5 rfl<|.fi rfl rfl
    ·refine .g 6 rfl<|.p0 rfl rfl fun x17 _=>.g 1 rfl<|.p0 rfl rfl fun x18 _=>.g 1 rfl<|.dn (by kernel_rfl)<|.g 1 rfl<|?_
     refine .cd rfl (fun _ _=>?_) fun _ _=>?_
     ·refine .g 4 rfl<|.p0 rfl rfl fun x19 _=>.g 1 rfl<|.p0 rfl rfl fun x20 _=>.g 5 rfl<|.dn (by kernel_rfl)<|.g 1 rfl<|?_
      refine .cd rfl (fun _ _=>?_) fun _ _=>?_
      ·refine .g 8 rfl<|.fi rfl rfl
      ·refine .g 9 rfl<|.fi rfl rfl
     ·refine .g 6 rfl<|.p0 rfl rfl fun x21 _=>.g 15 rfl<|.p0 rfl rfl fun x22 _=>.g 4 rfl<|.fi rfl rfl
   ·intro h21
    refine .g 9 rfl<|?_
    refine .gd 27 rfl (fun _=>?_) fun _=>?_
    ·refine .g 14 rfl<|.jw (h21 true) [(0,0),(1,1)] rfl
    ·refine .g 3 rfl<|.ln rfl rfl<|.g 3 rfl<|?_
     refine .gd 34 rfl (fun _=>?_) fun _=>?_
     ·refine .g 7 rfl<|.jw (h21 true) [(0,0),(1,1)] rfl
     ·refine .g 3 rfl<|.ln rfl rfl<|.g 3 rfl<|.jw (h21 ((a1.M.Mag.length:Int) == 0)) [(0,0),(1,1)] rfl
 ·intro h24
  refine .g 4 rfl<|?_
  refine .gd 16 rfl (fun _=>?_) fun _=>?_
  ·refine .g 4 rfl<|.jw (h24 true) [(0,0),(1,1)] rfl
  ·refine .g 4 rfl<|.jw (h24 (!x13)) [(0,0),(1,1)] rfl
instance l08_examples_i:PC (l08_examples) Tryz.prog 59 [] (fun r=>(.bool r)):=pc func59 (by kernel_rfl) rfl fun E=>by
 unfold l08_examples
 refine .g 7 rfl<|.bind fun x16 h1=>?_
 rcases x16 with x17 | x18
 ·dsimp only
  refine .st rfl (cl (iv_New_k_0 h1) [] [0] [true] rfl (.i<|.nil) .nil (fresh_cons rfl fnil) (.cons .dead .nil) (ren_tupL (.cons .nilptr<|.i<|.nil)) (.turned .nil) rfl) rfl<|.g 26 rfl<|.fi rfl rfl
 ·dsimp only
  refine .st rfl (cl (iv_New_k_1 h1) [] [0] [true] rfl (.i<|.nil) .nil (fresh_cons rfl fnil) (.cons (.v (.i<|.i<|.nil)) .nil) (ren_tupL (.p rfl<|.i<|.nil)) (.turned .nil) rfl) rfl<|.g 18 rfl<|?_
  refine .cd rfl (fun _ _=>?_) fun _ _=>?_
  ·refine .g 7 rfl<|.fi rfl rfl
  ·refine .g 5 rfl<|.bind fun x19 h4=>.st rfl (cl (CC.h h4) [0] [] [true] rfl (.p rfl<|.nil) (.p rfl (.i<|.i<|.nil) .nil) fnil (.cons (.v (.i<|.i<|.nil)) .nil) (ren_agg (K:=kI) _) (.turned .nil) rfl) rfl<|.g 5 rfl<|?_
   refine .cut (fun x:Bool=>(l08_examples_j1 x,[eB 0 x],[])) ?_ ?_
   ·rintro y25
    dsimp only [l08_examples_j1]
    refine .g 2 rfl<|.fi rfl rfl
   ·intro h12
    refine .g 4 rfl<|.bind fun x26 h13=>.st rfl (cl (CC.h h13) [0] [] [false] rfl (.p rfl<|.nil) (.p rfl (.i<|.i<|.nil) .nil) fnil (.cons (.v (.i<|.i<|.nil)) .nil) (.int _ _) (.kept rfl .nil) rfl) rfl<|.g 2 rfl<|?_
    refine .gd 21 rfl (fun _=>?_) fun _=>?_
    ·refine .p0 rfl rfl fun x27 _=>.g 2 rfl<|.p0 rfl rfl fun x28 _=>.g 3 rfl<|?_
     refine .gd 28 rfl (fun _=>?_) fun _=>?_
     ·refine .g 2 rfl<|.p0 rfl rfl fun x29 _=>.p0 rfl rfl fun x30 _=>.g 3 rfl<|.dn (by kernel_rfl)<|.jw (h12 (decide (x30<0))) [] rfl
     ·refine .g 7 rfl<|.dn (by kernel_rfl)<|.jw (h12 false) [] rfl
    ·refine .g 14 rfl<|.dn (by kernel_rfl)<|.jw (h12 false) [] rfl
instance zint_Mul_i (a0:ApiInt) (a1:ApiInt):PC (zint_Mul a0 a1) Tryz.prog 61 [(.agg (kN.enc a0)),(.agg (kN.enc a1))] (fun r=>(.agg (kN.enc (r)))):=pc func61 (by kernel_rfl) rfl fun E=>by
 unfold zint_Mul
 refine .g 10 rfl<|.p0 rfl rfl fun x5 _=>.g 1 rfl<|.p0 rfl rfl fun x6 _=>.g 4 rfl<|.dn (by kernel_rfl)<|.g 14 rfl<|.p0 rfl rfl fun x7 _=>.p0 rfl rfl fun x8 _=>.g 1 rfl<|.dn (by kernel_rfl)<|.g 2 rfl<|.fi rfl rfl
instance small_Atanh_1_i (a0:AI):PC (small_Atanh_1 a0) Tryz.prog 120 [(.agg (kI.enc a0))] (fun r=>(.agg (kI.enc (⟨⟨(((r).Lo).M),((r).Lo).E⟩,⟨(((r).Hi).M),((r).Hi).E⟩⟩:AI)))):=pc func120 (by kernel_rfl) rfl fun E=>by
 unfold small_Atanh_1
 refine .g 13 rfl<|.fi rfl rfl
instance small_odd_1_da03_i (a0:Int) (a1:AI) (a2:Int) (a3:Int) (a4:Bool) (a5:List Int) (a6:Int) (a7:Bool) (a8:List Int) (a9:Int):CC (small_odd_1_da03 a0 a1 a2 a3 a4 a5 a6 a7 a8 a9) Tryz.prog 175 [(.int .i64 a0),(.agg (kI.enc a1)),(.ptr 0 0),(.ptr 1 0),(.ptr 3 0)] [(.live 47 [(.fn 120 [] [])]),(.live 28 [(.ptr 2 0)]),(.live 45 [(.int .i64 a2),(.int .i64 a3)]),(.live 34 [(.bool a4),(slK (kInt .u32) a5),(.int .i64 a6),(.bool a7),(slK (kInt .u32) a8),(.int .i64 a9)])] (fun r=>(.tup [(.agg (kI.enc (⟨⟨(((r.1).Lo).M),((r.1).Lo).E⟩,⟨(((r.1).Hi).M),((r.1).Hi).E⟩⟩:AI))),(.agg (kI.enc (⟨⟨(((r.2.1).Lo).M),((r.2.1).Lo).E⟩,⟨(((r.2.1).Hi).M),((r.2.1).Hi).E⟩⟩:AI)))])) (fun r=>[(.live 47 [(.fn 120 [] [])]),(.live 28 [(.ptr 2 0)]),(.live 45 [(.int .i64 r.2.2),(.int .i64 a3)]),(.live 34 [(.bool a4),(slK (kInt .u32) a5),(.int .i64 a6),(.bool a7),(slK (kInt .u32) a8),(.int .i64 a9)])]):=cc func175 (by kernel_rfl) rfl fun E=>by
 unfold small_odd_1_da03
 refine .g 13 rfl<|.bind fun x5 h1=>.st rfl (cl (CC.h h1) [2] [] [true] rfl (.p rfl<|.a kI<|.a kI<|.nil) (.p rfl (.i<|.i<|.nil) .nil) fnil (.cons (.v (.i<|.i<|.nil)) .nil) (ren_agg (K:=kI) _) (.turned .nil) rfl) rfl<|.p0 rfl rfl fun x6 _=>.g 1 rfl<|.dn (by kernel_rfl)<|.g 10 rfl<|.bind fun x7 h3=>.st rfl (cl (CC.h h3) [2] [] [true] rfl (.p rfl<|.i<|.nil) (.p rfl (.i<|.i<|.nil) .nil) fnil (.cons (.v (.i<|.i<|.nil)) .nil) (ren_agg (K:=kI) _) (.turned .nil) rfl) rfl<|.bind fun x8 h4=>.st rfl (cl (CC.h h4) [2] [] [true] rfl (.p rfl<|.a kI<|.a kI<|.nil) (.p rfl (.i<|.i<|.nil) .nil) fnil (.cons (.v (.i<|.i<|.nil)) .nil) (ren_agg (K:=kI) _) (.turned .nil) rfl) rfl<|.g 2 rfl<|.dn (by kernel_rfl)<|.g 2 rfl<|.fi rfl rfl
instance small_series_78b1_i (a0:AI) (a1:Int) (a2:Int) (a3:Bool) (a4:List Int) (a5:Int) (a6:Bool) (a7:List Int) (a8:Int):CC (small_series_78b1 a0 a1 a2 a3 a4 a5 a6 a7 a8) Tryz.prog 154 [(.ptr 0 0),(.agg (kI.enc a0)),(.fn 175 [] [(.ptr 1 0),(.ptr 2 0),(.ptr 3 0)])] [(.live 45 [(.int .i64 a1),(.int .i64 a2)]),(.live 47 [(.fn 120 [] [])]),(.live 28 [(.ptr 0 0)]),(.live 34 [(.bool a3),(slK (kInt .u32) a4),(.int .i64 a5),(.bool a6),(slK (kInt .u32) a7),(.int .i64 a8)])] (fun r=>(.agg (kI.enc (⟨⟨(((r.1).Lo).M),((r.1).Lo).E⟩,⟨(((r.1).Hi).M),((r.1).Hi).E⟩⟩:AI)))) (fun r=>[(.live 45 [(.int .i64 r.2),(.int .i64 a2)]),(.live 47 [(.fn 120 [] [])]),(.live 28 [(.ptr 0 0)]),(.live 34 [(.bool a3),(slK (kInt .u32) a4),(.int .i64 a5),(.bool a6),(slK (kInt .u32) a7),(.int .i64 a8)])]):=cc func154 (by kernel_rfl) rfl fun E=>by
 unfold small_series_78b1
 refine .g 14 rfl<|.dn (by kernel_rfl)<|.g 5 rfl<|.bind fun x93 h1=>.st rfl (cl (CC.h h1) [0] [] [false] rfl (.p rfl<|.nil) (.p rfl (.i<|.i<|.nil) .nil) fnil (.cons (.v (.i<|.i<|.nil)) .nil) (.int _ _) (.kept rfl .nil) rfl) rfl<|.p0 rfl rfl fun x94 _=>.g 3 rfl<|?_
 refine .cut (fun x:Int × Bool × (List Int) × Int × Bool × (List Int) × Int=>(small_series_78b1_j1 a2 x.1 x.2.1 x.2.2.1 x.2.2.2.1 x.2.2.2.2.1 x.2.2.2.2.2.1 x.2.2.2.2.2.2,[eP 0 0,eP 6 5,eP 7 6],[(0,(.live 45 [(.int .i64 x.1),(.int .i64 a2)])),(1,(.live 47 [(.fn 120 [] [])])),(2,(.live 28 [(.ptr 0 0)])),(3,(.live 34 [(.bool a3),(slK (kInt .u32) a4),(.int .i64 a5),(.bool a6),(slK (kInt .u32) a7),(.int .i64 a8)])),(5,(.live 34 [(.bool false),(slK (kInt .u32) []),(.int .i64 0),(.bool false),(slK (kInt .u32) []),(.int .i64 0)])),(6,(.live 34 [(.bool x.2.1),(slK (kInt .u32) x.2.2.1),(.int .i64 x.2.2.2.1),(.bool x.2.2.2.2.1),(slK (kInt .u32) x.2.2.2.2.2.1),(.int .i64 x.2.2.2.2.2.2)]))])) ?_ ?_
 ·rintro ⟨y135,y136,y137,y138,y139,y140,y141⟩
  dsimp only [small_series_78b1_j1]
  refine .g 6 rfl<|.bind fun x142 h21=>.st rfl (cl (CC.h h21) [0] [] [false] rfl (.p rfl<|.nil) (.p rfl (.i<|.i<|.nil) .nil) fnil (.cons (.v (.i<|.i<|.nil)) .nil) (.int _ _) (.kept rfl .nil) rfl) rfl<|.g 1 rfl<|.p0 rfl rfl fun x143 _=>.bind fun x144 h23=>.st rfl (cl (CC.h h23) [0] [] [true] rfl (.p rfl<|.a kI<|.a kD<|.nil) (.p rfl (.i<|.i<|.nil) .nil) fnil (.cons (.v (.i<|.i<|.nil)) .nil) (ren_agg (K:=kI) _) (.turned .nil) rfl) rfl<|.g 1 rfl<|.dn (by kernel_rfl)<|.g 2 rfl<|.fi rfl rfl
 ·intro h24
  refine .g 1 rfl<|?_
  refine .lp (fun n (x:Int × Int × Bool × (List Int) × Int × Bool × (List Int) × Int × Bool × (List Int) × Int × Bool × (List Int) × Int)=>small_series_78b1_l2 x94 a2 a3 a4 a5 a6 a7 a8 n x.1 x.2.1 x.2.2.1 x.2.2.2.1 x.2.2.2.2.1 x.2.2.2.2.2.1 x.2.2.2.2.2.2.1 x.2.2.2.2.2.2.2.1 x.2.2.2.2.2.2.2.2.1 x.2.2.2.2.2.2.2.2.2.1 x.2.2.2.2.2.2.2.2.2.2.1 x.2.2.2.2.2.2.2.2.2.2.2.1 x.2.2.2.2.2.2.2.2.2.2.2.2.1 x.2.2.2.2.2.2.2.2.2.2.2.2.2) (fun x=>([eP 0 0,(2,some (.fn 175 [] [(.ptr 1 0),(.ptr 2 0),(.ptr 3 0)])),eP 6 5,eP 7 6,eP 8 7,eI 15 x94,eI 16 x.1],[(0,(.live 45 [(.int .i64 x.2.1),(.int .i64 a2)])),(1,(.live 47 [(.fn 120 [] [])])),(2,(.live 28 [(.ptr 0 0)])),(3,(.live 34 [(.bool a3),(slK (kInt .u32) a4),(.int .i64 a5),(.bool a6),(slK (kInt .u32) a7),(.int .i64 a8)])),(5,(.live 34 [(.bool false),(slK (kInt .u32) []),(.int .i64 0),(.bool false),(slK (kInt .u32) []),(.int .i64 0)])),(6,(.live 34 [(.bool x.2.2.1),(slK (kInt .u32) x.2.2.2.1),(.int .i64 x.2.2.2.2.1),(.bool x.2.2.2.2.2.1),(slK (kInt .u32) x.2.2.2.2.2.2.1),(.int .i64 x.2.2.2.2.2.2.2.1)])),(7,(.live 34 [(.bool x.2.2.2.2.2.2.2.2.1),(slK (kInt .u32) x.2.2.2.2.2.2.2.2.2.1),(.int .i64 x.2.2.2.2.2.2.2.2.2.2.1),(.bool x.2.2.2.2.2.2.2.2.2.2.2.1),(slK (kInt .u32) x.2.2.2.2.2.2.2.2.2.2.2.2.1),(.int .i64 x.2.2.2.2.2.2.2.2.2.2.2.2.2)]))])) (0,a1,a0.Lo.M.Neg,a0.Lo.M.Mag,a0.Lo.E,a0.Hi.M.Neg,a0.Hi.M.Mag,a0.Hi.E,a0.Lo.M.Neg,a0.Lo.M.Mag,a0.Lo.E,a0.Hi.M.Neg,a0.Hi.M.Mag,a0.Hi.E) [(0,0),(1,1),(2,2),(3,3),(5,5),(6,6),(7,7)] rfl ?_
  rintro n2 ⟨y167,y168,y169,y170,y171,y172,y173,y174,y175,y176,y177,y178,y179,y180⟩
  try dsimp only
  rw [small_series_78b1_l2]
  refine .g 6 rfl<|?_
  refine .cd rfl (fun _ _=>?_) fun _ _=>?_
  ·refine .g 21 rfl<|.bind fun x183 h41=>.st rfl (cl (CC.h h41) [1,2,0,3] [] [false,false,true,false] rfl (.i<|.a kI<|.p rfl<|.p rfl<|.p rfl<|.nil) (.p rfl (.cons (ren_fnL _ .nil .nil)<|.nil) (.p rfl (.p rfl<|.nil) (.p rfl (.i<|.i<|.nil) (.p rfl (.b<|.l<|.i<|.b<|.l<|.i<|.nil) .nil)))) fnil (.cons (.v (.cons (ren_fnL _ .nil .nil)<|.nil)) (.cons (.v (.p rfl<|.nil)) (.cons (.v (.i<|.i<|.nil)) (.cons (.v (.b<|.l<|.i<|.b<|.l<|.i<|.nil)) .nil)))) (ren_tupL (.a kI<|.a kI<|.nil)) (.kept rfl (.kept rfl (.turned (.kept rfl .nil)))) rfl) rfl<|.g 11 rfl<|.bind fun x184 h42=>.st rfl (cl (CC.h h42) [0] [] [true] rfl (.p rfl<|.a kI<|.a kI<|.nil) (.p rfl (.i<|.i<|.nil) .nil) fnil (.cons (.v (.i<|.i<|.nil)) .nil) (ren_agg (K:=kI) _) (.turned .nil) rfl) rfl<|.g 8 rfl<|.ag ((IntKind.i64.wrap (y167+1)),x184.2,(((x184.1).Lo).M).Neg,(((x184.1).Lo).M).Mag,((x184.1).Lo).E,(((x184.1).Hi).M).Neg,(((x184.1).Hi).M).Mag,((x184.1).Hi).E,(((x183.1).Lo).M).Neg,(((x183.1).Lo).M).Mag,((x183.1).Lo).E,(((x183.1).Hi).M).Neg,(((x183.1).Hi).M).Mag,((x183.1).Hi).E) [(0,0),(1,1),(2,2),(3,3),(5,5),(6,6),(7,7)] rfl
  ·refine .g 4 rfl<|.jw (h24 (y168,y169,y170,y171,y172,y173,y174)) [(0,0),(1,1),(2,2),(3,3),(5,5),(6,6)] rfl
instance small_odd_cdf0_i (a0:AI) (a1:Int) (a2:Int):CC (small_odd_cdf0 a0 a1 a2) Tryz.prog 119 [(.ptr 0 0),(.agg (kI.enc a0)),(.fn 120 [] [])] [(.live 45 [(.int .i64 a1),(.int .i64 a2)])] (fun r=>(.agg (kI.enc (⟨⟨(((r.1).Lo).M),((r.1).Lo).E⟩,⟨(((r.1).Hi).M),((r.1).Hi).E⟩⟩:AI)))) (fun r=>[(.live 45 [(.int .i64 r.2),(.int .i64 a2)])]):=cc func119 (by kernel_rfl) rfl fun E=>by
 unfold small_odd_cdf0
 refine .g 13 rfl<|.bind fun x4 h1=>.st rfl (cl (CC.h h1) [0] [] [true] rfl (.p rfl<|.a kI<|.i<|.nil) (.p rfl (.i<|.i<|.nil) .nil) fnil (.cons (.v (.i<|.i<|.nil)) .nil) (.bool _) (.turned .nil) rfl) rfl<|.g 3 rfl<|?_
 refine .cd rfl (fun _ _=>?_) fun _ _=>?_
 ·refine .g 8 rfl<|.fi rfl rfl
 ·refine .g 7 rfl<|.bind fun x5 h4=>.st rfl (cl (CC.h h4) [0] [] [true] rfl (.p rfl<|.a kI<|.a kI<|.nil) (.p rfl (.i<|.i<|.nil) .nil) fnil (.cons (.v (.i<|.i<|.nil)) .nil) (ren_agg (K:=kI) _) (.turned .nil) rfl) rfl<|.g 9 rfl<|.bind fun x6 h5=>.st rfl (cl (CC.h h5) [0,3,1,5] [] [true,false,false,false] rfl (.p rfl<|.a kI<|.cons (ren_fnL _ .nil (.p rfl<|.p rfl<|.p rfl<|.nil))<|.nil) (.p rfl (.i<|.i<|.nil) (.p rfl (.cons (ren_fnL _ .nil .nil)<|.nil) (.p rfl (.p rfl<|.nil) (.p rfl (.b<|.l<|.i<|.b<|.l<|.i<|.nil) .nil)))) fnil (.cons (.v (.i<|.i<|.nil)) (.cons (.v (.cons (ren_fnL _ .nil .nil)<|.nil)) (.cons (.v (.p rfl<|.nil)) (.cons (.v (.b<|.l<|.i<|.b<|.l<|.i<|.nil)) .nil)))) (ren_agg (K:=kI) _) (.turned (.kept rfl (.kept rfl (.kept rfl .nil)))) rfl) rfl<|.g 4 rfl<|.fi rfl rfl
instance small_Atanh_i (a0:AI) (a1:Int) (a2:Int):CC (small_Atanh a0 a1 a2) Tryz.prog 54 [(.ptr 0 0),(.agg (kI.enc a0))] [(.live 45 [(.int .i64 a1),(.int .i64 a2)])] (fun r=>(.agg (kI.enc (⟨⟨(((r.1).Lo).M),((r.1).Lo).E⟩,⟨(((r.1).Hi).M),((r.1).Hi).E⟩⟩:AI)))) (fun r=>[(.live 45 [(.int .i64 r.2),(.int .i64 a2)])]):=cc func54 (by kernel_rfl) rfl fun E=>by
 unfold small_Atanh
 refine .g 10 rfl<|.bind fun x2 h1=>.st rfl (cl (CC.h h1) [0] [] [true] rfl (.p rfl<|.a kI<|.cons (ren_fnL _ .nil .nil)<|.nil) (.p rfl (.i<|.i<|.nil) .nil) fnil (.cons (.v (.i<|.i<|.nil)) .nil) (ren_agg (K:=kI) _) (.turned .nil) rfl) rfl<|.g 4 rfl<|.fi rfl rfl
end Go.Proofs.YtpmpcohbpankaaaGreat.Gen
