/- Printed by geng.py: a call does what the plain function says. -/
import Derived.Test.YtpmpcohbpankaaaGreatKonstKnownGenP3
set_option maxRecDepth 4000
namespace Go.Proofs.YtpmpcohbpankaaaGreat.Gen
open Go Go.Abs Go.Proofs Go.Proofs.Tryz
instance konst_parts_b550_i (a0:Int) (a1:Int) (a2:Int) (a3:Int):CC (konst_parts_b550 a0 a1 a2 a3) Tryz.prog 124 [(.ptr 0 0),(.sl [[(.fn 54 [] []),(.int .i64 a0),(.int .i64 a1)]])] [(.live 45 [(.int .i64 a2),(.int .i64 a3)])] (fun r=>(slK kI r.1)) (fun r=>[(.live 45 [(.int .i64 r.2),(.int .i64 a3)])]):=cc func124 (by kernel_rfl) rfl fun E=>by
 unfold konst_parts_b550
 refine .g 14 rfl<|.sv (.int .i64 1) [] rfl (snd_len _ _ _ _ _ rfl underlying154 rfl rfl rfl rfl) rfl<|.g 3 rfl<|?_
 refine .cut (fun x:Int × (List AI)=>(konst_parts_b550_j1 a1 a3 x.1 x.2,[eP 0 0,(1,some (.sl [[(.fn 54 [] []),(.int .i64 a0),(.int .i64 a1)]])),(5,some (grA kI 1 x.2))],[(0,(.live 45 [(.int .i64 x.1),(.int .i64 a3)])),(1,(grV kI 34 x.2))])) ?_ ?_
 ·rintro ⟨y119,y120⟩
  dsimp only [konst_parts_b550_j1]
  refine .g 5 rfl<|.sv (.int .i64 1) [] rfl (snd_len _ _ _ _ _ rfl underlying154 rfl rfl rfl rfl) rfl<|.g 3 rfl<|?_
  refine .cut (fun x:Int × (List AI)=>(konst_parts_b550_j2 x.1 x.2,[(5,some (grA kI 1 x.2))],[(0,(.live 45 [(.int .i64 x.1),(.int .i64 a3)])),(1,(grV kI 34 x.2))])) ?_ ?_
  ·rintro ⟨y133,y134⟩
   dsimp only [konst_parts_b550_j2]
   refine .g 8 rfl<|?_
   refine .weak ?_ (fun a w h=>Conc.gr_still kI h 4 1 34 y134 rfl rfl)
   exact .fi rfl rfl
  ·intro h71
   refine .g 1 rfl<|?_
   refine .lo (fun n (x:Int × Int × (List AI))=>konst_parts_b550_l3 a1 a3 n x.1 x.2.1 x.2.2) (fun x=>([eP 0 0,(5,some (grA kI 1 x.2.2)),(32,some (.sl [[(.fn 54 [] []),(.int .i64 a0),(.int .i64 a1)]])),eI 33 1,eI 34 x.1],[(0,(.live 45 [(.int .i64 x.2.1),(.int .i64 a3)])),(1,(grV kI 34 x.2.2))])) (0,y119,y120) rfl (fun hE=>jn (m:=1) [(0,0),(1,1)] hE (.p rfl rfl<|.g rfl (ren_gr (K:=kI) (by rfl) y120)<|.g rfl (ren_slL (.cons (.cons (ren_fnL _ .nil .nil)<|.i<|.i<|.nil) .nil))<|.i rfl<|.i rfl<|.nil) (.v rfl (.i<|.i<|.nil)<|.cons (.refl _) (renV_gr (K:=kI) 34 y120)<|.nil) rfl) ?_
   rintro n3 ⟨y142,y143,y144⟩
   try dsimp only
   rw [konst_parts_b550_l3]
   refine .g 6 rfl<|?_
   refine .cd rfl (fun _ _=>?_) fun _ _=>?_
   ·refine .g 7 rfl<|?_
    refine .ite (fun h99=>?_) (fun h99=>?_)
    ·refine .sv (.iptr [(.fn 54 [] []),(.int .i64 a0),(.int .i64 a1)]) [] rfl (snd_index_at 0 _ _ _ _ _ _ _ _ rfl underlying154 si126 rfl rfl rfl rfl (by intro e he; simp at he; rcases he with rfl<;>rfl) rfl h99 rfl) rfl<|.g 6 rfl<|.guard fun h100=>?_
     refine .weak ?_ (fun a w h=>Conc.gr_open1 kI h 5 1 y144 (by omega) rfl)
     refine .weak ?_ (fun a w h=>Conc.gr_openV kI h 1 34 y144 (by omega) rfl)
     refine .g 6 rfl<|.guard fun h101=>?_
     obtain ⟨h1011,h1012⟩:=h101
     refine .sv (.rptr 1 kI.sz y142.toNat 0) [] rfl (idx_r (snd_index_r _ _ _ _ _ 1 0 ((y144).length) _ y142 rfl underlying104 si34 rfl rfl rfl rfl h1011 (by omega)) (Nat.zero_add _)) rfl<|.sv (.agg (kI.enc (⟨⟨((((y144).getD y142.toNat zAI).Lo).M),(((y144).getD y142.toNat zAI).Lo).E⟩,⟨((((y144).getD y142.toNat zAI).Hi).M),(((y144).getD y142.toNat zAI).Hi).E⟩⟩:AI))) [] rfl (snd_loadK_agg kI _ _ 1 y142.toNat 0 6 _ _ rfl ag34 rfl rfl rfl rfl (by first | omega | (simp only [List.length_set]; omega)) (by decide)) rfl<|.g 2 rfl<|.bind fun x146 h102=>.st rfl (cl (CC.h h102) [0] [] [true] rfl (.p rfl<|.a kI<|.i<|.nil) (.p rfl (.i<|.i<|.nil) .nil) fnil (.cons (.v (.i<|.i<|.nil)) .nil) (ren_agg (K:=kI) _) (.turned .nil) rfl) rfl<|.guard fun h103=>?_
     obtain ⟨h1031,h1032⟩:=h103
     refine .sv (.rptr 1 kI.sz y142.toNat 0) [] rfl (idx_r (snd_index_r _ _ _ _ _ 1 0 ((y144).length) _ y142 rfl underlying104 si34 rfl rfl rfl rfl h1031 (by omega)) (Nat.zero_add _)) rfl<|.sm [(1,(rwK kI 34 ((y144).set y142.toNat (⟨⟨(((x146.1).Lo).M),((x146.1).Lo).E⟩,⟨(((x146.1).Hi).M),((x146.1).Hi).E⟩⟩:AI))))] rfl (snd_storeK_agg kI _ _ _ 1 y142.toNat _ _ (⟨⟨(((x146.1).Lo).M),((x146.1).Lo).E⟩,⟨(((x146.1).Hi).M),((x146.1).Hi).E⟩⟩:AI) rfl rfl ag34 rfl rfl rfl rfl (by first | omega | (simp only [List.length_set]; omega))) rfl<|.dn (by kernel_rfl)<|?_
     refine .weak ?_ (fun a w h=>Conc.relen h 5 ((((y144).set y142.toNat (⟨⟨(((x146.1).Lo).M),((x146.1).Lo).E⟩,⟨(((x146.1).Hi).M),((x146.1).Hi).E⟩⟩:AI))).length) rfl List.length_set.symm)
     refine .g 6 rfl<|.guard fun h104=>?_
     refine .weak ?_ (fun a w h=>Conc.gr_row kI h 5 1 34 ((y144).set y142.toNat (⟨⟨(((x146.1).Lo).M),((x146.1).Lo).E⟩,⟨(((x146.1).Hi).M),((x146.1).Hi).E⟩⟩:AI)) rfl rfl (by first | omega | (simp only [List.length_append,List.length_cons,List.length_set]; omega) | simp))
     exact .ao ((IntKind.i64.wrap (y142+1)),x146.2,((y144).set y142.toNat (⟨⟨(((x146.1).Lo).M),((x146.1).Lo).E⟩,⟨(((x146.1).Hi).M),((x146.1).Hi).E⟩⟩:AI))) rfl fun hE=>jn (m:=1) [(0,0),(1,1)] hE (.p rfl rfl<|.g rfl (ren_gr (K:=kI) (by rfl) ((y144).set y142.toNat (⟨⟨(((x146.1).Lo).M),((x146.1).Lo).E⟩,⟨(((x146.1).Hi).M),((x146.1).Hi).E⟩⟩:AI)))<|.g rfl (ren_slL (.cons (.cons (ren_fnL _ .nil .nil)<|.i<|.i<|.nil) .nil))<|.i rfl<|.i rfl<|.nil) (.v rfl (.i<|.i<|.nil)<|.cons (.refl _) (renV_gr (K:=kI) 34 ((y144).set y142.toNat (⟨⟨(((x146.1).Lo).M),((x146.1).Lo).E⟩,⟨(((x146.1).Hi).M),((x146.1).Hi).E⟩⟩:AI)))<|.nil) rfl
    ·exact .no
   ·refine .g 4 rfl<|.jo (h71 (y143,y144)) rfl fun hE=>jn (m:=1) [(0,0),(1,1)] hE (.g rfl (ren_gr (K:=kI) (by rfl) y144)<|.nil) (.v rfl (.i<|.i<|.nil)<|.cons (.refl _) (renV_gr (K:=kI) 34 y144)<|.nil) rfl
 ·intro h105
  refine .g 1 rfl<|?_
  refine .weak ?_ (fun a w h=>Conc.gr_nil kI h 5 1 34 rfl)
  refine .lo (fun n (x:Int × Int × (List AI))=>konst_parts_b550_l4 a3 a0 a1 n x.1 x.2.1 x.2.2) (fun x=>([eP 0 0,(1,some (.sl [[(.fn 54 [] []),(.int .i64 a0),(.int .i64 a1)]])),(5,some (grA kI 1 x.2.2)),(10,some (.sl [[(.fn 54 [] []),(.int .i64 a0),(.int .i64 a1)]])),eI 11 1,eI 12 x.1],[(0,(.live 45 [(.int .i64 x.2.1),(.int .i64 a3)])),(1,(grV kI 34 x.2.2))])) (0,a2,[]) rfl (fun hE=>jn (m:=1) [(0,0),(1,1)] hE (.p rfl rfl<|.g rfl (ren_slL (.cons (.cons (ren_fnL _ .nil .nil)<|.i<|.i<|.nil) .nil))<|.g rfl (ren_gr (K:=kI) (by rfl) [])<|.g rfl (ren_slL (.cons (.cons (ren_fnL _ .nil .nil)<|.i<|.i<|.nil) .nil))<|.i rfl<|.i rfl<|.nil) (.v rfl (.i<|.i<|.nil)<|.cons (.refl _) (renV_gr (K:=kI) 34 [])<|.nil) rfl) ?_
  rintro n4 ⟨y166,y167,y168⟩
  try dsimp only
  rw [konst_parts_b550_l4]
  refine .g 6 rfl<|?_
  refine .cd rfl (fun _ _=>?_) fun _ _=>?_
  ·refine .g 6 rfl<|?_
   refine .ite (fun h138=>?_) (fun h138=>?_)
   ·refine .sv (.iptr [(.fn 54 [] []),(.int .i64 a0),(.int .i64 a1)]) [] rfl (snd_index_at 0 _ _ _ _ _ _ _ _ rfl underlying154 si126 rfl rfl rfl rfl (by intro e he; simp at he; rcases he with rfl<;>rfl) rfl h138 rfl) rfl<|.g 12 rfl<|.bind fun x173 h139=>.st rfl (cl (CC.h h139) [0] [] [true] rfl (.p rfl<|.i<|.nil) (.p rfl (.i<|.i<|.nil) .nil) fnil (.cons (.v (.i<|.i<|.nil)) .nil) (ren_agg (K:=kI) _) (.turned .nil) rfl) rfl<|.g 3 rfl<|.bind fun x174 h140=>.st rfl (cl (CC.h h140) [0] [] [true] rfl (.p rfl<|.i<|.nil) (.p rfl (.i<|.i<|.nil) .nil) fnil (.cons (.v (.i<|.i<|.nil)) .nil) (ren_agg (K:=kI) _) (.turned .nil) rfl) rfl<|.bind fun x175 h141=>.st rfl (cl (CC.h h141) [0] [] [true] rfl (.p rfl<|.a kI<|.a kI<|.nil) (.p rfl (.i<|.i<|.nil) .nil) fnil (.cons (.v (.i<|.i<|.nil)) .nil) (ren_agg (K:=kI) _) (.turned .nil) rfl) rfl<|.bind fun x176 h142=>.st rfl (cl (CC.h h142) [0] [] [true] rfl (.p rfl<|.a kI<|.nil) (.p rfl (.i<|.i<|.nil) .nil) fnil (.cons (.v (.i<|.i<|.nil)) .nil) (ren_agg (K:=kI) _) (.turned .nil) rfl) rfl<|.st rfl (bs kI [(⟨⟨(((x176.1).Lo).M),((x176.1).Lo).E⟩,⟨(((x176.1).Hi).M),((x176.1).Hi).E⟩⟩:AI)] rfl rfl) rfl<|.guard fun h143=>.sv (.row 3 kI.sz 0 (((y168++[(⟨⟨(((x176.1).Lo).M),((x176.1).Lo).E⟩,⟨(((x176.1).Hi).M),((x176.1).Hi).E⟩⟩:AI)])).length)) [(3,(rwK kI 34 (y168++[(⟨⟨(((x176.1).Lo).M),((x176.1).Lo).E⟩,⟨(((x176.1).Hi).M),((x176.1).Hi).E⟩⟩:AI)]))),(1,.dead)] rfl (snd_appendK_gr kI _ _ _ _ _ 1 3 y168 [(⟨⟨(((x176.1).Lo).M),((x176.1).Lo).E⟩,⟨(((x176.1).Hi).M),((x176.1).Hi).E⟩⟩:AI)] rfl underlying104 ze34 sb34 rfl rfl rfl rfl rfl rfl rfl h143) rfl<|?_
    refine .g 1 rfl<|.dn (by kernel_rfl)<|.g 6 rfl<|?_
    refine .weak ?_ (fun a w h=>Conc.gr_row kI h 5 3 34 (y168++[(⟨⟨(((x176.1).Lo).M),((x176.1).Lo).E⟩,⟨(((x176.1).Hi).M),((x176.1).Hi).E⟩⟩:AI)]) rfl rfl (by first | omega | (simp only [List.length_append,List.length_cons,List.length_set]; omega) | simp))
    exact .ao ((IntKind.i64.wrap (y166+1)),x176.2,(y168++[(⟨⟨(((x176.1).Lo).M),((x176.1).Lo).E⟩,⟨(((x176.1).Hi).M),((x176.1).Hi).E⟩⟩:AI)])) rfl fun hE=>jn (m:=1) [(0,0),(3,1)] hE (.p rfl rfl<|.g rfl (ren_slL (.cons (.cons (ren_fnL _ .nil .nil)<|.i<|.i<|.nil) .nil))<|.g rfl (ren_gr (K:=kI) (by rfl) (y168++[(⟨⟨(((x176.1).Lo).M),((x176.1).Lo).E⟩,⟨(((x176.1).Hi).M),((x176.1).Hi).E⟩⟩:AI)]))<|.g rfl (ren_slL (.cons (.cons (ren_fnL _ .nil .nil)<|.i<|.i<|.nil) .nil))<|.i rfl<|.i rfl<|.nil) (.v rfl (.i<|.i<|.nil)<|.cons (.refl _) (renV_gr (K:=kI) 34 (y168++[(⟨⟨(((x176.1).Lo).M),((x176.1).Lo).E⟩,⟨(((x176.1).Hi).M),((x176.1).Hi).E⟩⟩:AI)]))<|.nil) rfl
   ·exact .no
  ·refine .g 4 rfl<|.jo (h105 (y167,y168)) rfl fun hE=>jn (m:=1) [(0,0),(1,1)] hE (.p rfl rfl<|.g rfl (ren_slL (.cons (.cons (ren_fnL _ .nil .nil)<|.i<|.i<|.nil) .nil))<|.g rfl (ren_gr (K:=kI) (by rfl) y168)<|.nil) (.v rfl (.i<|.i<|.nil)<|.cons (.refl _) (renV_gr (K:=kI) 34 y168)<|.nil) rfl
instance konst_Ln2_i (a0:Int) (a1:Int):CC (konst_Ln2 a0 a1) Tryz.prog 63 [(.ptr 0 0)] [(.live 45 [(.int .i64 a0),(.int .i64 a1)])] (fun r=>(.agg (kI.enc (⟨⟨(((r.1).Lo).M),((r.1).Lo).E⟩,⟨(((r.1).Hi).M),((r.1).Hi).E⟩⟩:AI)))) (fun r=>[(.live 45 [(.int .i64 r.2),(.int .i64 a1)])]):=cc func63 (by kernel_rfl) rfl fun E=>by
 unfold konst_Ln2
 refine .g 9 rfl<|.sv (.sl [[(.fn 54 [] []),(.int .i64 3),(.int .i64 1)]]) [] rfl (snd_buildSlice _ _ _ 3 _ _ [(0,(.agg [(.fn 54 [] []),(.int .i64 3),(.int .i64 1)]))] [[(.fn 54 [] []),(.int .i64 3),(.int .i64 1)]] rfl underlying154 ze126 si126 rfl rfl rfl (by decide) (by decide) (by decide) rfl rfl (by intro e he; simp at he; rcases he with rfl<;>rfl) rfl) rfl<|.bind fun x2 h1=>.st rfl (cl (CC.h h1) [0] [] [true] rfl (.p rfl<|.cons (ren_slL (.cons (.cons (ren_fnL _ .nil .nil)<|.i<|.i<|.nil) .nil))<|.nil) (.p rfl (.i<|.i<|.nil) .nil) fnil (.cons (.v (.i<|.i<|.nil)) .nil) (ren_sl _) (.turned .nil) rfl) rfl<|.ix rfl rfl<|.g 5 rfl<|.fi rfl rfl
instance l08_known_i (a0:List Int) (a1:ApiInt):PC (l08_known a0 a1) Tryz.prog 65 [(slK (kInt .i64) a0),(.agg (kN.enc a1))] (fun r=>(.agg (kN.enc (r)))):=pc func65 (by kernel_rfl) rfl fun E=>by
 unfold l08_known
 refine .g 9 rfl<|.ix rfl rfl<|.g 1 rfl<|.p0 rfl rfl fun x5 _=>.g 1 rfl<|.p0 rfl rfl fun x6 _=>.g 1 rfl<|.ix rfl rfl<|.g 1 rfl<|.p0 rfl rfl fun x7 _=>.p0 rfl rfl fun x8 _=>.g 1 rfl<|.dn (by kernel_rfl)<|.g 2 rfl<|.fi rfl rfl
instance l08_lies_i (a0:AI) (a1:ApiInt) (a2:ApiInt) (a3:Int) (a4:Int):CC (l08_lies a0 a1 a2 a3 a4) Tryz.prog 64 [(.ptr 0 0),(.agg (kI.enc a0)),(.agg (kN.enc a1)),(.agg (kN.enc a2))] [(.live 45 [(.int .i64 a3),(.int .i64 a4)])] (fun r=>(.bool r.1)) (fun r=>[(.live 45 [(.int .i64 r.2),(.int .i64 a4)])]):=cc func64 (by kernel_rfl) rfl fun E=>by
 unfold l08_lies
 refine .g 11 rfl<|.p0 rfl rfl fun x11 _=>.g 11 rfl<|.p0 rfl rfl fun x12 _=>.g 11 rfl<|.p0 rfl rfl fun x13 _=>.p0 rfl rfl fun x14 _=>.p0 rfl rfl fun x15 _=>.g 6 rfl<|.dn (by kernel_rfl)<|.g 7 rfl<|.bind fun x16 h6=>.st rfl (cl (CC.h h6) [0] [] [true] rfl (.p rfl<|.a kD<|.nil) (.p rfl (.i<|.i<|.nil) .nil) fnil (.cons (.v (.i<|.i<|.nil)) .nil) (ren_agg (K:=kI) _) (.turned .nil) rfl) rfl<|.bind fun x17 h7=>?_
 refine .st rfl (cl (CC.h h7) [0] [] [true] rfl (.p rfl<|.a kI<|.a kI<|.nil) (.p rfl (.i<|.i<|.nil) .nil) fnil (.cons (.v (.i<|.i<|.nil)) .nil) (ren_agg (K:=kI) _) (.turned .nil) rfl) rfl<|.g 2 rfl<|.dn (by kernel_rfl)<|.g 2 rfl<|?_
 refine .cut (fun x:Bool=>(l08_lies_j1 x17 x,[eB 8 x],[(0,(.live 45 [(.int .i64 x17.2),(.int .i64 a4)]))])) ?_ ?_
 ·rintro y19
  dsimp only [l08_lies_j1]
  refine .g 2 rfl<|.fi rfl rfl
 ·intro h12
  refine .g 3 rfl<|?_
  refine .gd 40 rfl (fun _=>?_) fun _=>?_
  ·refine .g 3 rfl<|?_
   refine .gd 43 rfl (fun _=>?_) fun _=>?_
   ·refine .g 3 rfl<|?_
    refine .gd 46 rfl (fun _=>?_) fun _=>?_
    ·refine .g 4 rfl<|.p0 rfl rfl fun x20 _=>.g 3 rfl<|.jw (h12 x20) [(0,0)] rfl
    ·refine .g 8 rfl<|.jw (h12 false) [(0,0)] rfl
   ·refine .g 11 rfl<|.jw (h12 false) [(0,0)] rfl
  ·refine .g 14 rfl<|.jw (h12 false) [(0,0)] rfl
instance cv_Meet_i (a0:AI) (a1:AI) (a2:Int) (a3:Int):CC (cv_Meet a0 a1 a2 a3) Tryz.prog 36 [(.ptr 0 0),(.agg (kI.enc a0)),(.agg (kI.enc a1))] [(.live 45 [(.int .i64 a2),(.int .i64 a3)])] (fun r=>(.agg (kI.enc (⟨⟨(((r.1).Lo).M),((r.1).Lo).E⟩,⟨(((r.1).Hi).M),((r.1).Hi).E⟩⟩:AI)))) (fun r=>[(.live 45 [(.int .i64 r.2),(.int .i64 a3)])]):=cc func36 (by kernel_rfl) rfl fun E=>by
 unfold cv_Meet
 refine .g 13 rfl<|.st rfl (bs kI [a0,a1] rfl rfl) rfl<|.bind fun x6 h1=>.st rfl (cl (CC.h h1) [0] [] [true] rfl (.p rfl<|.l<|.nil) (.p rfl (.i<|.i<|.nil) .nil) fnil (.cons (.v (.i<|.i<|.nil)) .nil) (.bool _) (.turned .nil) rfl) rfl<|.g 3 rfl<|?_
 refine .cd rfl (fun _ _=>?_) fun _ _=>?_
 ·refine .g 8 rfl<|.fi rfl rfl
 ·refine .g 8 rfl<|.st rfl (bs kD [a0.Lo,a1.Lo] rfl rfl) rfl<|.p0 rfl rfl fun x7 _=>.g 15 rfl<|.st rfl (bs kD [a0.Hi,a1.Hi] rfl rfl) rfl<|.p0 rfl rfl fun x8 _=>.g 14 rfl<|.p0 rfl rfl fun x9 _=>.g 3 rfl<|?_
  refine .cd rfl (fun _ _=>?_) fun _ _=>?_
  ·refine .g 5 rfl<|.bind fun x10 h9=>.st rfl (cl (CC.h h9) [0] [] [true] rfl (.p rfl<|.i<|.nil) (.p rfl (.i<|.i<|.nil) .nil) fnil (.cons (.v (.i<|.i<|.nil)) .nil) (.bool _) (.turned .nil) rfl) rfl<|.g 10 rfl<|.fi rfl rfl
  ·refine .g 11 rfl<|.fi rfl rfl
instance l08_KonstKnown_i (a0:Int):PC (l08_KonstKnown a0) Tryz.prog 11 [(.int .i64 a0)] (fun r=>(.bool r)):=pc func11 (by kernel_rfl) rfl fun E=>by
 unfold l08_KonstKnown
 refine .g 7 rfl<|.p0 rfl rfl fun x30 _=>.g 10 rfl<|?_
 refine .cd rfl (fun _ _=>?_) fun _ _=>?_
 ·refine .g 7 rfl<|.fi rfl rfl
 ·refine .g 9 rfl<|?_
  refine .cut (fun x:Int=>(l08_KonstKnown_j1 x30 x,[eI 0 x,eB 3 x30],[])) ?_ ?_
  ·rintro y31
   dsimp only [l08_KonstKnown_j1]
   refine .g 3 rfl<|.st rfl (bs (kInt .i64) [3141592653589793,238462643383279] rfl rfl) rfl<|.g 5 rfl<|.st rfl (bs (kInt .i64) [693147180559945,309417232121458] rfl rfl) rfl<|.g 8 rfl<|.bind fun x32 h6=>?_
   rcases x32 with x33 | x34
   ·dsimp only
    refine .st rfl (cl (iv_New_k_0 h6) [] [0] [true] rfl (.i<|.nil) .nil (fresh_cons rfl fnil) (.cons .dead .nil) (ren_tupL (.cons .nilptr<|.i<|.nil)) (.turned .nil) rfl) rfl<|.g 12 rfl<|.bind fun x35 h7=>?_
    rcases x35 with x36 | x37
    ·dsimp only
     refine .st rfl (cl (iv_New_k_0 h7) [] [1] [true] rfl (.i<|.nil) .nil (fresh_cons rfl fnil) (.cons .dead .nil) (ren_tupL (.cons .nilptr<|.i<|.nil)) (.turned .nil) rfl) rfl<|.g 34 rfl<|.fi rfl rfl
    ·dsimp only
     refine .st rfl (cl (iv_New_k_1 h7) [] [1] [true] rfl (.i<|.nil) .nil (fresh_cons rfl fnil) (.cons (.v (.i<|.i<|.nil)) .nil) (ren_tupL (.p rfl<|.i<|.nil)) (.turned .nil) rfl) rfl<|.g 34 rfl<|.fi rfl rfl
   ·dsimp only
    refine .st rfl (cl (iv_New_k_1 h6) [] [0] [true] rfl (.i<|.nil) .nil (fresh_cons rfl fnil) (.cons (.v (.i<|.i<|.nil)) .nil) (ren_tupL (.p rfl<|.i<|.nil)) (.turned .nil) rfl) rfl<|.g 12 rfl<|.bind fun x38 h8=>?_
    rcases x38 with x39 | x40
    ·dsimp only
     refine .st rfl (cl (iv_New_k_0 h8) [] [1] [true] rfl (.i<|.nil) .nil (fresh_cons rfl fnil) (.cons .dead .nil) (ren_tupL (.cons .nilptr<|.i<|.nil)) (.turned .nil) rfl) rfl<|.g 34 rfl<|.fi rfl rfl
    ·dsimp only
     refine .st rfl (cl (iv_New_k_1 h8) [] [1] [true] rfl (.i<|.nil) .nil (fresh_cons rfl fnil) (.cons (.v (.i<|.i<|.nil)) .nil) (ren_tupL (.p rfl<|.i<|.nil)) (.turned .nil) rfl) rfl<|.g 9 rfl<|?_
     refine .cut (fun x:Bool=>(l08_KonstKnown_j2 x34 x40 x30 x,[eB 3 x30,eK (kInt .i64) 4 [3141592653589793,238462643383279],eK (kInt .i64) 5 [693147180559945,309417232121458],eP 6 0,eP 8 1,eB 53 x],[(0,(.live 45 [(.int .i64 x34.2.1),(.int .i64 x34.2.2)])),(1,(.live 45 [(.int .i64 x40.2.1),(.int .i64 x40.2.2)]))])) ?_ ?_
     ·rintro y41
      dsimp only [l08_KonstKnown_j2]
      refine .g 1 rfl<|?_
      refine .cd rfl (fun _ _=>?_) fun _ _=>?_
      ·refine .g 7 rfl<|.fi rfl rfl
      ·refine .g 4 rfl<|.p0 rfl rfl fun x42 _=>.g 8 rfl<|.p0 rfl rfl fun x43 _=>.g 7 rfl<|.bind fun x44 h14=>.st rfl (cl (CC.h h14) [0] [] [true] rfl (.p rfl<|.nil) (.p rfl (.i<|.i<|.nil) .nil) fnil (.cons (.v (.i<|.i<|.nil)) .nil) (ren_agg (K:=kI) _) (.turned .nil) rfl) rfl<|.g 7 rfl<|.bind fun x45 h15=>.st rfl (cl (CC.h h15) [0] [] [true] rfl (.p rfl<|.nil) (.p rfl (.i<|.i<|.nil) .nil) fnil (.cons (.v (.i<|.i<|.nil)) .nil) (ren_agg (K:=kI) _) (.turned .nil) rfl) rfl<|.g 10 rfl<|.p0 rfl rfl fun x46 _=>.g 1 rfl<|.bind fun x47 h17=>?_
       refine .st rfl (cl (CC.h h17) [0] [] [true] rfl (.p rfl<|.a kI<|.a kN<|.a kN<|.nil) (.p rfl (.i<|.i<|.nil) .nil) fnil (.cons (.v (.i<|.i<|.nil)) .nil) (.bool _) (.turned .nil) rfl) rfl<|.g 1 rfl<|.dn (by kernel_rfl)<|.g 7 rfl<|.p0 rfl rfl fun x48 _=>.g 1 rfl<|.bind fun x49 h19=>.st rfl (cl (CC.h h19) [0] [] [true] rfl (.p rfl<|.a kI<|.a kN<|.a kN<|.nil) (.p rfl (.i<|.i<|.nil) .nil) fnil (.cons (.v (.i<|.i<|.nil)) .nil) (.bool _) (.turned .nil) rfl) rfl<|.g 1 rfl<|.dn (by kernel_rfl)<|.g 5 rfl<|.bind fun x50 h20=>.st rfl (cl (CC.h h20) [1] [] [true] rfl (.p rfl<|.nil) (.p rfl (.i<|.i<|.nil) .nil) fnil (.cons (.v (.i<|.i<|.nil)) .nil) (ren_agg (K:=kI) _) (.turned .nil) rfl) rfl<|.g 1 rfl<|?_
       refine .bind fun x51 h21=>.st rfl (cl (CC.h h21) [1] [] [true] rfl (.p rfl<|.a kI<|.a kI<|.nil) (.p rfl (.i<|.i<|.nil) .nil) fnil (.cons (.v (.i<|.i<|.nil)) .nil) (ren_agg (K:=kI) _) (.turned .nil) rfl) rfl<|.dn (by kernel_rfl)<|.g 5 rfl<|.bind fun x52 h22=>.st rfl (cl (CC.h h22) [1] [] [true] rfl (.p rfl<|.nil) (.p rfl (.i<|.i<|.nil) .nil) fnil (.cons (.v (.i<|.i<|.nil)) .nil) (ren_agg (K:=kI) _) (.turned .nil) rfl) rfl<|.g 1 rfl<|.bind fun x53 h23=>.st rfl (cl (CC.h h23) [1] [] [true] rfl (.p rfl<|.a kI<|.a kI<|.nil) (.p rfl (.i<|.i<|.nil) .nil) fnil (.cons (.v (.i<|.i<|.nil)) .nil) (ren_agg (K:=kI) _) (.turned .nil) rfl) rfl<|.dn (by kernel_rfl)<|.g 2 rfl<|?_
       refine .cut (fun x:Bool=>(l08_KonstKnown_j3 x,[eB 2 x],[])) ?_ ?_
       ·rintro y56
        dsimp only [l08_KonstKnown_j3]
        refine .g 2 rfl<|.fi rfl rfl
       ·intro h30
        refine .g 3 rfl<|?_
        refine .gd 87 rfl (fun _=>?_) fun _=>?_
        ·refine .g 3 rfl<|?_
         refine .gd 90 rfl (fun _=>?_) fun _=>?_
         ·refine .g 3 rfl<|?_
          refine .gd 93 rfl (fun _=>?_) fun _=>?_
          ·refine .g 3 rfl<|.bind fun x57 h34=>.st rfl (cl (CC.h h34) [0] [] [false] rfl (.p rfl<|.nil) (.p rfl (.i<|.i<|.nil) .nil) fnil (.cons (.v (.i<|.i<|.nil)) .nil) (.int _ _) (.kept rfl .nil) rfl) rfl<|.g 3 rfl<|?_
           refine .gd 100 rfl (fun _=>?_) fun _=>?_
           ·refine .g 3 rfl<|.bind fun x58 h36=>.st rfl (cl (CC.h h36) [1] [] [false] rfl (.p rfl<|.nil) (.p rfl (.i<|.i<|.nil) .nil) fnil (.cons (.v (.i<|.i<|.nil)) .nil) (.int _ _) (.kept rfl .nil) rfl) rfl<|.g 4 rfl<|.jw (h30 (x58 == 0)) [] rfl
           ·refine .g 8 rfl<|.jw (h30 false) [] rfl
          ·refine .g 15 rfl<|.jw (h30 false) [] rfl
         ·refine .g 18 rfl<|.jw (h30 false) [] rfl
        ·refine .g 21 rfl<|.jw (h30 false) [] rfl
     ·intro h37
      refine .g 12 rfl<|?_
      refine .gd 50 rfl (fun _=>?_) fun _=>?_
      ·refine .g 4 rfl<|.jw (h37 true) [(0,0),(1,1)] rfl
      ·refine .g 4 rfl<|.jw (h37 (x40.1 != 0)) [(0,0),(1,1)] rfl
  ·intro h39
   refine .cd rfl (fun _ _=>?_) fun _ _=>?_
   ·refine .g 6 rfl<|.jw (h39 (IntKind.i64.wrap (0-(IntKind.i64.wrap (a0+1))))) [] rfl
   ·refine .g 1 rfl<|.jw (h39 a0) [] rfl
end Go.Proofs.YtpmpcohbpankaaaGreat.Gen
