/- Printed by geng.py: a call does what the plain function says. -/
import Derived.Test.YtjffljhmjdljeaaGreatGammToldGenP1
set_option linter.unusedVariables false
set_option linter.unusedSimpArgs false
set_option maxRecDepth 4000
set_option maxHeartbeats 1000000
set_option synthInstance.maxSize 4000
set_option synthInstance.maxHeartbeats 400000
namespace Go.Proofs.YtjffljhmjdljeaaGreat.Gen
open Go Go.Abs Go.Proofs Go.Proofs.Tryz
open Go.IntKind (i64 u64 u32)
instance {x94 a2 a3 a4 a5 a6 a7 a8} : L14 (zfh x94 a2 a3 a4 a5 a6 a7 a8) fun ya yb yc yd ye yf yg yh yi yj yk yl ym yn=>([eP 0 0,(2,some (.fn 198 [] [(.iptr [(.fn 269 [] [])]),(.ptr 1 0),(.ptr 2 0)])),eP 6 4,eP 7 5,eP 8 6,eI 15 x94,eI 16 ya],[(0,(.live 54 [(.int .i64 yb),(.int .i64 a2)])),(1,(.live 29 [(.ptr 0 0)])),(2,(.live 37 [(.bool a3),(slK kU a4),(.int .i64 a5),(.bool a6),(slK kU a7),(.int .i64 a8)])),(4,(.live 37 [(.bool false),(slK kU []),(.int .i64 0),(.bool false),(slK kU []),(.int .i64 0)])),(5,(.live 37 [(.bool yc),(slK kU yd),(.int .i64 ye),(.bool yf),(slK kU yg),(.int .i64 yh)])),(6,(.live 37 [(.bool yi),(slK kU yj),(.int .i64 yk),(.bool yl),(slK kU ym),(.int .i64 yn)]))]):={}
instance zF9 (a0:AI) (a1:Int) (a2:Int) (a3:Bool) (a4:List Int) (a5:Int) (a6:Bool) (a7:List Int) (a8:Int):CC (zks a0 a1 a2 a3 a4 a5 a6 a7 a8) prog 197 [(.ptr 0 0),(.agg (kI.enc a0)),(.fn 198 [] [(.iptr [(.fn 269 [] [])]),(.ptr 1 0),(.ptr 2 0)])] [(.live 54 [(.int .i64 a1),(.int .i64 a2)]),(.live 29 [(.ptr 0 0)]),(.live 37 [(.bool a3),(slK kU a4),(.int .i64 a5),(.bool a6),(slK kU a7),(.int .i64 a8)])] (fun r=>(.agg (kI.enc r.1))) (fun r=>[(.live 54 [(.int .i64 r.2),(.int .i64 a2)]),(.live 29 [(.ptr 0 0)]),(.live 37 [(.bool a3),(slK kU a4),(.int .i64 a5),(.bool a6),(slK kU a7),(.int .i64 a8)])]):=cc func197 (by kernel_rfl) rfl fun E=>by
 unfold zks
 exact wk
instance zGa (a0:AI) (a1:Int) (a2:Int):CC (zkt a0 a1 a2) prog 129 [(.ptr 0 0),(.agg (kI.enc a0)),(.fn 269 [] [])] [(.live 54 [(.int .i64 a1),(.int .i64 a2)])] (fun r=>(.agg (kI.enc r.1))) (fun r=>[(.live 54 [(.int .i64 r.2),(.int .i64 a2)])]):=cc func129 (by kernel_rfl) rfl fun E=>by
 unfold zkt
 exact wk
instance zGb (a0:AI) (a1:Int) (a2:Int):CC (zdY a0 a1 a2) prog 265 [(.ptr 0 0),(.agg (kI.enc a0))] [(.live 54 [(.int .i64 a1),(.int .i64 a2)])] (fun r=>(.agg (kI.enc r.1))) (fun r=>[(.live 54 [(.int .i64 r.2),(.int .i64 a2)])]):=cc func265 (by kernel_rfl) rfl fun E=>by
 unfold zdY
 exact wk
instance zGc (a0:Int) (a1:Int) (a2:Int) (a3:Int):CC (zkw a0 a1 a2 a3) prog 85 [(.ptr 0 0),(.sl [[(.fn 265 [] []),(.int .i64 a0),(.int .i64 a1)]])] [(.live 54 [(.int .i64 a2),(.int .i64 a3)])] (fun r=>(slK kI r.1)) (fun r=>[(.live 54 [(.int .i64 r.2),(.int .i64 a3)])]):=cc func85 (by kernel_rfl) rfl fun E=>by
 unfold zkw
 refine .g 14 rfl<|.sv (.int .i64 1) [] rfl (zeK _ _ _ _ _ rfl underlying149 rfl rfl rfl rfl) rfl<|.g 3 rfl<|?_
 refine .cut (fun x:Int × (List AI)=>(zkv a1 a3 x.1 x.2,[eP 0 0,(1,some (.sl [[(.fn 265 [] []),(.int .i64 a0),(.int .i64 a1)]])),(5,some (grA kI 1 x.2))],[(0,(.live 54 [(.int .i64 x.1),(.int .i64 a3)])),(1,(grV kI 37 x.2))])) ?_ ?_
 ·rintro ⟨y119,y120⟩
  dsimp only [zkv]
  refine .g 5 rfl<|.sv (.int .i64 1) [] rfl (zeK _ _ _ _ _ rfl underlying149 rfl rfl rfl rfl) rfl<|.g 3 rfl<|?_
  refine .cut (fun x:Int × (List AI)=>(zku x.1 x.2,[(5,some (grA kI 1 x.2))],[(0,(.live 54 [(.int .i64 x.1),(.int .i64 a3)])),(1,(grV kI 37 x.2))])) ?_ ?_
  ·rintro ⟨y133,y134⟩
   dsimp only [zku]
   refine .g 8 rfl<|?_
   refine .weak ?_ (fun a w h=>Conc.gr_still kI h 4 1 37 y134 rfl rfl)
   exact .fi rfl rfl
  ·intro h71
   refine .g 1 rfl<|?_
   refine .lo (fun n (x:Int × Int × (List AI))=>zfi a1 a3 n x.1 x.2.1 x.2.2) (fun x=>([eP 0 0,(5,some (grA kI 1 x.2.2)),(32,some (.sl [[(.fn 265 [] []),(.int .i64 a0),(.int .i64 a1)]])),eI 33 1,eI 34 x.1],[(0,(.live 54 [(.int .i64 x.2.1),(.int .i64 a3)])),(1,(grV kI 37 x.2.2))])) (0,y119,y120) rfl (fun hE=>jn (m:=1) [(0,0),(1,1)] hE (.p rfl rfl<|.g rfl (zC (K:=kI) (by rfl) y120)<|.g rfl (Zp (.cons (.cons (zU _ .nil .nil)<|.i<|.i<|.nil) .nil))<|.i rfl<|.i rfl<|.nil) (.v rfl (.i<|.i<|.nil)<|.cons (.refl _) (zE (K:=kI) 37 y120)<|.nil) rfl) ?_
   rintro n3 ⟨y142,y143,y144⟩
   try dsimp only
   rw [zfi]
   refine .g 6 rfl<|?_
   refine .cd rfl (fun _ _=>?_) fun _ _=>?_
   ·refine .g 7 rfl<|?_
    refine .ite (fun h99=>?_) (fun h99=>?_)
    ·refine .sv (.iptr [(.fn 265 [] []),(.int .i64 a0),(.int .i64 a1)]) [] rfl (zeO 0 _ _ _ _ _ _ _ _ rfl underlying149 zf4 rfl rfl rfl rfl (by intro e he; simp at he; rcases he with rfl<;>rfl) rfl h99 rfl) rfl<|.g 6 rfl<|.guard fun h100=>?_
     refine .weak ?_ (fun a w h=>Conc.gr_open1 kI h 5 1 y144 (by omega) rfl)
     refine .weak ?_ (fun a w h=>Conc.gr_openV kI h 1 37 y144 (by omega) rfl)
     refine .g 6 rfl<|.guard fun h101=>?_
     obtain ⟨h1011,h1012⟩:=h101
     refine .sv (.rptr 1 kI.sz y142.toNat 0) [] rfl (qc (qb _ _ _ _ _ 1 0 y144.length _ y142 rfl underlying93 zf3 rfl rfl rfl rfl h1011 (by omega)) (Nat.zero_add _)) rfl<|.sv (.agg (kI.enc (⟨⟨(((y144.getD y142.toNat zAI).Lo).M),((y144.getD y142.toNat zAI).Lo).E⟩,⟨(((y144.getD y142.toNat zAI).Hi).M),((y144.getD y142.toNat zAI).Hi).E⟩⟩:AI))) [] rfl (znb kI _ _ 1 y142.toNat 0 6 _ _ rfl zf2 rfl rfl rfl rfl (by first | omega | (simp only [List.length_set]; omega)) (by decide)) rfl<|.g 2 rfl<|.c0 [0] [] [true] rfl rfl (fun _=>rfl) (fun _=>rfl) fun x146 _=>.guard fun h103=>?_
     obtain ⟨h1031,h1032⟩:=h103
     refine .sv (.rptr 1 kI.sz y142.toNat 0) [] rfl (qc (qb _ _ _ _ _ 1 0 y144.length _ y142 rfl underlying93 zf3 rfl rfl rfl rfl h1031 (by omega)) (Nat.zero_add _)) rfl<|.sm [(1,(rwK kI 37 (y144.set y142.toNat (⟨⟨x146.1.Lo.M,x146.1.Lo.E⟩,⟨x146.1.Hi.M,x146.1.Hi.E⟩⟩:AI))))] rfl (znc kI _ _ _ 1 y142.toNat _ _ (⟨⟨x146.1.Lo.M,x146.1.Lo.E⟩,⟨x146.1.Hi.M,x146.1.Hi.E⟩⟩:AI) rfl rfl zf2 rfl rfl rfl rfl (by first | omega | (simp only [List.length_set]; omega))) rfl<|.dn (by kernel_rfl)<|?_
     refine .weak ?_ (fun a w h=>Conc.relen h 5 (((y144.set y142.toNat (⟨⟨x146.1.Lo.M,x146.1.Lo.E⟩,⟨x146.1.Hi.M,x146.1.Hi.E⟩⟩:AI))).length) rfl List.length_set.symm)
     refine .g 6 rfl<|.guard fun h104=>?_
     refine .weak ?_ (fun a w h=>Conc.gr_row kI h 5 1 37 (y144.set y142.toNat (⟨⟨x146.1.Lo.M,x146.1.Lo.E⟩,⟨x146.1.Hi.M,x146.1.Hi.E⟩⟩:AI)) rfl rfl (by first | omega | (simp only [List.length_append,List.length_cons,List.length_set]; omega) | simp))
     exact .ao ((i64.wrap (y142+1)),x146.2,(y144.set y142.toNat (⟨⟨x146.1.Lo.M,x146.1.Lo.E⟩,⟨x146.1.Hi.M,x146.1.Hi.E⟩⟩:AI))) rfl fun hE=>jn (m:=1) [(0,0),(1,1)] hE (.p rfl rfl<|.g rfl (zC (K:=kI) (by rfl) (y144.set y142.toNat (⟨⟨x146.1.Lo.M,x146.1.Lo.E⟩,⟨x146.1.Hi.M,x146.1.Hi.E⟩⟩:AI)))<|.g rfl (Zp (.cons (.cons (zU _ .nil .nil)<|.i<|.i<|.nil) .nil))<|.i rfl<|.i rfl<|.nil) (.v rfl (.i<|.i<|.nil)<|.cons (.refl _) (zE (K:=kI) 37 (y144.set y142.toNat (⟨⟨x146.1.Lo.M,x146.1.Lo.E⟩,⟨x146.1.Hi.M,x146.1.Hi.E⟩⟩:AI)))<|.nil) rfl
    ·exact .no
   ·refine .g 4 rfl<|.jo (h71 (y143,y144)) rfl fun hE=>jn (m:=1) [(0,0),(1,1)] hE (.g rfl (zC (K:=kI) (by rfl) y144)<|.nil) (.v rfl (.i<|.i<|.nil)<|.cons (.refl _) (zE (K:=kI) 37 y144)<|.nil) rfl
 ·intro h105
  refine .g 1 rfl<|?_
  refine .weak ?_ (fun a w h=>Conc.gr_nil kI h 5 1 37 rfl)
  refine .lo (fun n (x:Int × Int × (List AI))=>zfj a3 a0 a1 n x.1 x.2.1 x.2.2) (fun x=>([eP 0 0,(1,some (.sl [[(.fn 265 [] []),(.int .i64 a0),(.int .i64 a1)]])),(5,some (grA kI 1 x.2.2)),(10,some (.sl [[(.fn 265 [] []),(.int .i64 a0),(.int .i64 a1)]])),eI 11 1,eI 12 x.1],[(0,(.live 54 [(.int .i64 x.2.1),(.int .i64 a3)])),(1,(grV kI 37 x.2.2))])) (0,a2,[]) rfl (fun hE=>jn (m:=1) [(0,0),(1,1)] hE (.p rfl rfl<|.g rfl (Zp (.cons (.cons (zU _ .nil .nil)<|.i<|.i<|.nil) .nil))<|.g rfl (zC (K:=kI) (by rfl) [])<|.g rfl (Zp (.cons (.cons (zU _ .nil .nil)<|.i<|.i<|.nil) .nil))<|.i rfl<|.i rfl<|.nil) (.v rfl (.i<|.i<|.nil)<|.cons (.refl _) (zE (K:=kI) 37 [])<|.nil) rfl) ?_
  rintro n4 ⟨y166,y167,y168⟩
  try dsimp only
  rw [zfj]
  refine .g 6 rfl<|?_
  refine .cd rfl (fun _ _=>?_) fun _ _=>?_
  ·refine .g 6 rfl<|?_
   refine .ite (fun h138=>?_) (fun h138=>?_)
   ·refine .sv (.iptr [(.fn 265 [] []),(.int .i64 a0),(.int .i64 a1)]) [] rfl (zeO 0 _ _ _ _ _ _ _ _ rfl underlying149 zf4 rfl rfl rfl rfl (by intro e he; simp at he; rcases he with rfl<;>rfl) rfl h138 rfl) rfl<|.g 12 rfl<|.c0 [0] [] [true] rfl rfl (fun _=>rfl) (fun _=>rfl) fun x173 _=>.g 3 rfl<|.c0 [0] [] [true] rfl rfl (fun _=>rfl) (fun _=>rfl) fun x174 _=>.c0 [0] [] [true] rfl rfl (fun _=>rfl) (fun _=>rfl) fun x175 _=>.c0 [0] [] [true] rfl rfl (fun _=>rfl) (fun _=>rfl) fun x176 _=>.st rfl (bs kI [(⟨⟨x176.1.Lo.M,x176.1.Lo.E⟩,⟨x176.1.Hi.M,x176.1.Hi.E⟩⟩:AI)] rfl rfl) rfl<|.guard fun h143=>.sv (.row 3 kI.sz 0 (((y168++[(⟨⟨x176.1.Lo.M,x176.1.Lo.E⟩,⟨x176.1.Hi.M,x176.1.Hi.E⟩⟩:AI)])).length)) [(3,(rwK kI 37 (y168++[(⟨⟨x176.1.Lo.M,x176.1.Lo.E⟩,⟨x176.1.Hi.M,x176.1.Hi.E⟩⟩:AI)]))),(1,.dead)] rfl (zax kI _ _ _ _ _ 1 3 y168 [(⟨⟨x176.1.Lo.M,x176.1.Lo.E⟩,⟨x176.1.Hi.M,x176.1.Hi.E⟩⟩:AI)] rfl underlying93 zow zox rfl rfl rfl rfl rfl rfl rfl h143) rfl<|.g 1 rfl<|.dn (by kernel_rfl)<|.g 6 rfl<|?_
    refine .weak ?_ (fun a w h=>Conc.gr_row kI h 5 3 37 (y168++[(⟨⟨x176.1.Lo.M,x176.1.Lo.E⟩,⟨x176.1.Hi.M,x176.1.Hi.E⟩⟩:AI)]) rfl rfl (by first | omega | (simp only [List.length_append,List.length_cons,List.length_set]; omega) | simp))
    exact .ao ((i64.wrap (y166+1)),x176.2,(y168++[(⟨⟨x176.1.Lo.M,x176.1.Lo.E⟩,⟨x176.1.Hi.M,x176.1.Hi.E⟩⟩:AI)])) rfl fun hE=>jn (m:=1) [(0,0),(3,1)] hE (.p rfl rfl<|.g rfl (Zp (.cons (.cons (zU _ .nil .nil)<|.i<|.i<|.nil) .nil))<|.g rfl (zC (K:=kI) (by rfl) (y168++[(⟨⟨x176.1.Lo.M,x176.1.Lo.E⟩,⟨x176.1.Hi.M,x176.1.Hi.E⟩⟩:AI)]))<|.g rfl (Zp (.cons (.cons (zU _ .nil .nil)<|.i<|.i<|.nil) .nil))<|.i rfl<|.i rfl<|.nil) (.v rfl (.i<|.i<|.nil)<|.cons (.refl _) (zE (K:=kI) 37 (y168++[(⟨⟨x176.1.Lo.M,x176.1.Lo.E⟩,⟨x176.1.Hi.M,x176.1.Hi.E⟩⟩:AI)]))<|.nil) rfl
   ·exact .no
  ·refine .g 4 rfl<|.jo (h105 (y167,y168)) rfl fun hE=>jn (m:=1) [(0,0),(1,1)] hE (.p rfl rfl<|.g rfl (Zp (.cons (.cons (zU _ .nil .nil)<|.i<|.i<|.nil) .nil))<|.g rfl (zC (K:=kI) (by rfl) y168)<|.nil) (.v rfl (.i<|.i<|.nil)<|.cons (.refl _) (zE (K:=kI) 37 y168)<|.nil) rfl
instance zGd (a0:Int) (a1:Int):CC (zhH a0 a1) prog 266 [(.ptr 0 0)] [(.live 54 [(.int .i64 a0),(.int .i64 a1)])] (fun r=>(.agg (kI.enc r.1))) (fun r=>[(.live 54 [(.int .i64 r.2),(.int .i64 a1)])]):=cc func266 (by kernel_rfl) rfl fun E=>by
 unfold zhH
 exact wk
instance zGe (a0:AI) (a1:Int) (a2:Int):CC (zcz a0 a1 a2) prog 130 [(.ptr 0 0),(.agg (kI.enc a0))] [(.live 54 [(.int .i64 a1),(.int .i64 a2)])] (fun r=>(.agg (kI.enc r.1))) (fun r=>[(.live 54 [(.int .i64 r.2),(.int .i64 a2)])]):=cc func130 (by kernel_rfl) rfl fun E=>by
 unfold zcz
 exact wk
instance zGf (a0:AI) (a1:Int) (a2:Int) (a3:Int):CC (zfk a0 a1 a2 a3) prog 212 [(.ptr 0 0),(.agg (kI.enc a0)),(.int .i64 a1)] [(.live 54 [(.int .i64 a2),(.int .i64 a3)])] (fun r=>(.tup [(.agg (kI.enc r.1)),(.int .i64 r.2)])) (fun r=>[(.live 54 [(.int .i64 a2),(.int .i64 a3)])]):=cc func212 (by kernel_rfl) rfl fun E=>by
 unfold zfk
 exact wk
instance zGg (a0:AD) (a1:Int):PC (zfl a0 a1) prog 257 [(.agg (kD.enc a0)),(.int .i64 a1)] (fun r=>(.tup [(.agg (kI.enc r.1)),(.int .i64 r.2)])):=pc func257 (by kernel_rfl) rfl fun E=>by
 unfold zfl
 exact wk
instance zGh (a0:AI) (a1:Int):PC (zkz a0 a1) prog 183 [(.agg (kI.enc a0)),(.int .i64 a1),(.fn 257 [] [])] (fun r=>(.tup [(.agg (kI.enc r.1)),(.int .i64 r.2)])):=pc func183 (by kernel_rfl) rfl fun E=>by
 unfold zkz
 exact wk
instance zGi (a0:AI) (a1:Int):PC (zhI a0 a1) prog 232 [(.agg (kI.enc a0)),(.int .i64 a1)] (fun r=>(.tup [(.agg (kI.enc r.1)),(.int .i64 r.2)])):=pc func232 (by kernel_rfl) rfl fun E=>by
 unfold zhI
 exact wk
instance zGj (a0:AI) (a1:Int) (a2:Int) (a3:Int):CC (zbL a0 a1 a2 a3) prog 179 [(.ptr 0 0),(.agg (kI.enc a0))] [(.live 175 [(.ptr 1 0),(.int .i64 a1)]),(.live 54 [(.int .i64 a2),(.int .i64 a3)])] (fun r=>(.agg (kI.enc r.1))) (fun r=>[(.live 175 [(.ptr 1 0),(.int .i64 r.2)]),(.live 54 [(.int .i64 a2),(.int .i64 a3)])]):=cc func179 (by kernel_rfl) rfl fun E=>by
 unfold zbL
 exact wk
instance (a0:AI) (a1:Int) (a2:Int) (a3:Int):KC (zbL a0 a1 a2 a3) prog 179 [(.ptr 0 0),(.agg (kI.enc a0))] [(.live 175 [(.ptr 1 0),(.int .i64 a1)]),(.live 54 [(.int .i64 a2),(.int .i64 a3)])] (fun r=>(.agg (kI.enc r.1))) (fun r=>r.2=a1):=⟨fun r h (k:r.2=a1)=>by
 have c:=CC.h h
 rw [k] at c
 exact c⟩
theorem zGk {a0:AI} {a1:Int} {a2:Int} {a3:Int} {r:AI × Int} (h:zbL a0 a1 a2 a3=some r) (k:r.2=a1):Cal prog 179 [(.ptr 0 0),(.agg (kI.enc a0))] [(.live 175 [(.ptr 1 0),(.int .i64 a1)]),(.live 54 [(.int .i64 a2),(.int .i64 a3)])] (.agg (kI.enc (⟨⟨r.1.Lo.M,r.1.Lo.E⟩,⟨r.1.Hi.M,r.1.Hi.E⟩⟩:AI))) [(.live 175 [(.ptr 1 0),(.int .i64 a1)]),(.live 54 [(.int .i64 a2),(.int .i64 a3)])]:=by
 have c:Cal prog 179 [(.ptr 0 0),(.agg (kI.enc a0))] [(.live 175 [(.ptr 1 0),(.int .i64 a1)]),(.live 54 [(.int .i64 a2),(.int .i64 a3)])] (.agg (kI.enc (⟨⟨r.1.Lo.M,r.1.Lo.E⟩,⟨r.1.Hi.M,r.1.Hi.E⟩⟩:AI))) [(.live 175 [(.ptr 1 0),(.int .i64 r.2)]),(.live 54 [(.int .i64 a2),(.int .i64 a3)])]:=CC.h h
 rw [k] at c
 exact c
instance zGl (a0:Int) (a1:AI) (a2:Int) (a3:Int) (a4:Bool) (a5:List Int) (a6:Int) (a7:Bool) (a8:List Int) (a9:Int):CC (zhJ a0 a1 a2 a3 a4 a5 a6 a7 a8 a9) prog 198 [(.int .i64 a0),(.agg (kI.enc a1)),(.ptr 0 0),(.ptr 2 0),(.ptr 3 0)] [(.live 44 [(.fn 20 [(.ptr 1 0)] [])]),(.live 54 [(.int .i64 a2),(.int .i64 a3)]),(.live 29 [(.ptr 1 0)]),(.live 37 [(.bool a4),(slK kU a5),(.int .i64 a6),(.bool a7),(slK kU a8),(.int .i64 a9)])] (fun r=>(.tup [(.agg (kI.enc r.1)),(.agg (kI.enc r.2.1))])) (fun r=>[(.live 44 [(.fn 20 [(.ptr 1 0)] [])]),(.live 54 [(.int .i64 r.2.2),(.int .i64 a3)]),(.live 29 [(.ptr 1 0)]),(.live 37 [(.bool a4),(slK kU a5),(.int .i64 a6),(.bool a7),(slK kU a8),(.int .i64 a9)])]):=cc func198 (by kernel_rfl) rfl fun E=>by
 unfold zhJ
 exact wk
instance {x94 a2 a3 a4 a5 a6 a7 a8} : L14 (zfm x94 a2 a3 a4 a5 a6 a7 a8) fun ya yb yc yd ye yf yg yh yi yj yk yl ym yn=>([eP 0 0,(2,some (.fn 198 [] [(.ptr 1 0),(.ptr 2 0),(.ptr 3 0)])),eP 6 5,eP 7 6,eP 8 7,eI 15 x94,eI 16 ya],[(0,(.live 54 [(.int .i64 yb),(.int .i64 a2)])),(1,(.live 44 [(.fn 20 [(.ptr 0 0)] [])])),(2,(.live 29 [(.ptr 0 0)])),(3,(.live 37 [(.bool a3),(slK kU a4),(.int .i64 a5),(.bool a6),(slK kU a7),(.int .i64 a8)])),(5,(.live 37 [(.bool false),(slK kU []),(.int .i64 0),(.bool false),(slK kU []),(.int .i64 0)])),(6,(.live 37 [(.bool yc),(slK kU yd),(.int .i64 ye),(.bool yf),(slK kU yg),(.int .i64 yh)])),(7,(.live 37 [(.bool yi),(slK kU yj),(.int .i64 yk),(.bool yl),(slK kU ym),(.int .i64 yn)]))]):={}
instance zGm (a0:AI) (a1:Int) (a2:Int) (a3:Bool) (a4:List Int) (a5:Int) (a6:Bool) (a7:List Int) (a8:Int):CC (zkA a0 a1 a2 a3 a4 a5 a6 a7 a8) prog 197 [(.ptr 0 0),(.agg (kI.enc a0)),(.fn 198 [] [(.ptr 1 0),(.ptr 2 0),(.ptr 3 0)])] [(.live 54 [(.int .i64 a1),(.int .i64 a2)]),(.live 44 [(.fn 20 [(.ptr 0 0)] [])]),(.live 29 [(.ptr 0 0)]),(.live 37 [(.bool a3),(slK kU a4),(.int .i64 a5),(.bool a6),(slK kU a7),(.int .i64 a8)])] (fun r=>(.agg (kI.enc r.1))) (fun r=>[(.live 54 [(.int .i64 r.2),(.int .i64 a2)]),(.live 44 [(.fn 20 [(.ptr 0 0)] [])]),(.live 29 [(.ptr 0 0)]),(.live 37 [(.bool a3),(slK kU a4),(.int .i64 a5),(.bool a6),(slK kU a7),(.int .i64 a8)])]):=cc func197 (by kernel_rfl) rfl fun E=>by
 unfold zkA
 exact wk
instance zGn (a0:AI) (a1:Int) (a2:Int):CC (zkB a0 a1 a2) prog 129 [(.ptr 0 0),(.agg (kI.enc a0)),(.fn 20 [(.ptr 0 0)] [])] [(.live 54 [(.int .i64 a1),(.int .i64 a2)])] (fun r=>(.agg (kI.enc r.1))) (fun r=>[(.live 54 [(.int .i64 r.2),(.int .i64 a2)])]):=cc func129 (by kernel_rfl) rfl fun E=>by
 unfold zkB
 exact wk
instance zGo (a0:AI) (a1:Int) (a2:Int):CC (zcA a0 a1 a2) prog 66 [(.ptr 0 0),(.agg (kI.enc a0))] [(.live 54 [(.int .i64 a1),(.int .i64 a2)])] (fun r=>(.agg (kI.enc r.1))) (fun r=>[(.live 54 [(.int .i64 r.2),(.int .i64 a2)])]):=cc func66 (by kernel_rfl) rfl fun E=>by
 unfold zcA
 exact wk
instance zGp (a0:Int) (a1:Int) (a2:Int) (a3:Int) (a4:Int) (a5:Int):CC (zhK a0 a1 a2 a3 a4 a5) prog 85 [(.ptr 0 0),(.sl [[(.fn 66 [] []),(.int .i64 a0),(.int .i64 a1)],[(.fn 66 [] []),(.int .i64 a2),(.int .i64 a3)]])] [(.live 54 [(.int .i64 a4),(.int .i64 a5)])] (fun r=>(slK kI r.1)) (fun r=>[(.live 54 [(.int .i64 r.2),(.int .i64 a5)])]):=cc func85 (by kernel_rfl) rfl fun E=>by
 unfold zhK
 refine .g 14 rfl<|.sv (.int .i64 2) [] rfl (zeK _ _ _ _ _ rfl underlying149 rfl rfl rfl rfl) rfl<|.g 3 rfl<|?_
 refine .cut (fun x:Int × (List AI)=>(zkC a1 a5 a3 x.1 x.2,[eP 0 0,(1,some (.sl [[(.fn 66 [] []),(.int .i64 a0),(.int .i64 a1)],[(.fn 66 [] []),(.int .i64 a2),(.int .i64 a3)]])),(5,some (grA kI 1 x.2))],[(0,(.live 54 [(.int .i64 x.1),(.int .i64 a5)])),(1,(grV kI 37 x.2))])) ?_ ?_
 ·rintro ⟨y195,y196⟩
  dsimp only [zkC]
  refine .g 5 rfl<|.sv (.int .i64 2) [] rfl (zeK _ _ _ _ _ rfl underlying149 rfl rfl rfl rfl) rfl<|.g 3 rfl<|?_
  refine .cut (fun x:Int × (List AI)=>(zn1 x.1 x.2,[(5,some (grA kI 1 x.2))],[(0,(.live 54 [(.int .i64 x.1),(.int .i64 a5)])),(1,(grV kI 37 x.2))])) ?_ ?_
  ·rintro ⟨y217,y218⟩
   dsimp only [zn1]
   refine .g 8 rfl<|?_
   refine .weak ?_ (fun a w h=>Conc.gr_still kI h 4 1 37 y218 rfl rfl)
   exact .fi rfl rfl
  ·intro h115
   refine .g 1 rfl<|?_
   refine .lo (fun n (x:Int × Int × (List AI))=>zbM a1 a5 a3 n x.1 x.2.1 x.2.2) (fun x=>([eP 0 0,(5,some (grA kI 1 x.2.2)),(32,some (.sl [[(.fn 66 [] []),(.int .i64 a0),(.int .i64 a1)],[(.fn 66 [] []),(.int .i64 a2),(.int .i64 a3)]])),eI 33 2,eI 34 x.1],[(0,(.live 54 [(.int .i64 x.2.1),(.int .i64 a5)])),(1,(grV kI 37 x.2.2))])) (0,y195,y196) rfl (fun hE=>jn (m:=1) [(0,0),(1,1)] hE (.p rfl rfl<|.g rfl (zC (K:=kI) (by rfl) y196)<|.g rfl (Zp (.cons (.cons (zU _ .nil .nil)<|.i<|.i<|.nil) (.cons (.cons (zU _ .nil .nil)<|.i<|.i<|.nil) .nil)))<|.i rfl<|.i rfl<|.nil) (.v rfl (.i<|.i<|.nil)<|.cons (.refl _) (zE (K:=kI) 37 y196)<|.nil) rfl) ?_
   rintro n3 ⟨y230,y231,y232⟩
   try dsimp only
   rw [zbM]
   refine .g 6 rfl<|?_
   refine .cd rfl (fun _ _=>?_) fun _ _=>?_
   ·refine .g 3 rfl<|?_
    refine .cut (fun x:Int × (List AI)=>(zfn (fun z0 z1 z2=>zbM a1 a5 a3 n3 z0 z1 z2) y230 x.1 x.2,[eP 0 0,(5,some (.row 1 kI.sz 0 x.2.length)),(32,some (.sl [[(.fn 66 [] []),(.int .i64 a0),(.int .i64 a1)],[(.fn 66 [] []),(.int .i64 a2),(.int .i64 a3)]])),eI 33 2,eI 34 y230],[(0,(.live 54 [(.int .i64 x.1),(.int .i64 a5)])),(1,(rwK kI 37 x.2))])) ?_ ?_
    ·rintro ⟨y235,y236⟩
     dsimp only [zfn]
     refine .g 5 rfl<|.guard fun h158=>?_
     refine .weak ?_ (fun a w h=>Conc.gr_row kI h 5 1 37 y236 rfl rfl (by first | omega | (simp only [List.length_append,List.length_cons,List.length_set]; omega) | simp))
     exact .ao ((i64.wrap (y230+1)),y235,y236) rfl fun hE=>jn (m:=1) [(0,0),(1,1)] hE (.p rfl rfl<|.g rfl (zC (K:=kI) (by rfl) y236)<|.g rfl (Zp (.cons (.cons (zU _ .nil .nil)<|.i<|.i<|.nil) (.cons (.cons (zU _ .nil .nil)<|.i<|.i<|.nil) .nil)))<|.i rfl<|.i rfl<|.nil) (.v rfl (.i<|.i<|.nil)<|.cons (.refl _) (zE (K:=kI) 37 y236)<|.nil) rfl
    ·intro h159
     refine .g 4 rfl<|?_
     refine .ite (fun h160=>?_) (fun h160=>?_)
     ·refine .sv (.iptr [(.fn 66 [] []),(.int .i64 a0),(.int .i64 a1)]) [] rfl (zeO 0 _ _ _ _ _ _ _ _ rfl underlying149 zf4 rfl rfl rfl rfl (by intro e he; simp at he; rcases he with rfl | rfl<;>rfl) rfl h160 rfl) rfl<|.g 6 rfl<|.guard fun h161=>?_
      refine .weak ?_ (fun a w h=>Conc.gr_open1 kI h 5 1 y232 (by omega) rfl)
      refine .weak ?_ (fun a w h=>Conc.gr_openV kI h 1 37 y232 (by omega) rfl)
      refine .g 6 rfl<|.guard fun h162=>?_
      obtain ⟨h1621,h1622⟩:=h162
      refine .sv (.rptr 1 kI.sz y230.toNat 0) [] rfl (qc (qb _ _ _ _ _ 1 0 y232.length _ y230 rfl underlying93 zf3 rfl rfl rfl rfl h1621 (by omega)) (Nat.zero_add _)) rfl<|.sv (.agg (kI.enc (⟨⟨(((y232.getD y230.toNat zAI).Lo).M),((y232.getD y230.toNat zAI).Lo).E⟩,⟨(((y232.getD y230.toNat zAI).Hi).M),((y232.getD y230.toNat zAI).Hi).E⟩⟩:AI))) [] rfl (znb kI _ _ 1 y230.toNat 0 6 _ _ rfl zf2 rfl rfl rfl rfl (by first | omega | (simp only [List.length_set]; omega)) (by decide)) rfl<|.g 2 rfl<|.c0 [0] [] [true] rfl rfl (fun _=>rfl) (fun _=>rfl) fun x237 _=>.guard fun h164=>?_
      obtain ⟨h1641,h1642⟩:=h164
      refine .sv (.rptr 1 kI.sz y230.toNat 0) [] rfl (qc (qb _ _ _ _ _ 1 0 y232.length _ y230 rfl underlying93 zf3 rfl rfl rfl rfl h1641 (by omega)) (Nat.zero_add _)) rfl<|.sm [(1,(rwK kI 37 (y232.set y230.toNat (⟨⟨x237.1.Lo.M,x237.1.Lo.E⟩,⟨x237.1.Hi.M,x237.1.Hi.E⟩⟩:AI))))] rfl (znc kI _ _ _ 1 y230.toNat _ _ (⟨⟨x237.1.Lo.M,x237.1.Lo.E⟩,⟨x237.1.Hi.M,x237.1.Hi.E⟩⟩:AI) rfl rfl zf2 rfl rfl rfl rfl (by first | omega | (simp only [List.length_set]; omega))) rfl<|.dn (by kernel_rfl)<|?_
      refine .weak ?_ (fun a w h=>Conc.relen h 5 (((y232.set y230.toNat (⟨⟨x237.1.Lo.M,x237.1.Lo.E⟩,⟨x237.1.Hi.M,x237.1.Hi.E⟩⟩:AI))).length) rfl List.length_set.symm)
      refine .g 1 rfl<|.jw (h159 (x237.2,(y232.set y230.toNat (⟨⟨x237.1.Lo.M,x237.1.Lo.E⟩,⟨x237.1.Hi.M,x237.1.Hi.E⟩⟩:AI)))) [(0,0),(1,1)] rfl
     ·refine .ite (fun h165=>?_) (fun h165=>?_)
      ·refine .sv (.iptr [(.fn 66 [] []),(.int .i64 a2),(.int .i64 a3)]) [] rfl (zeO 1 _ _ _ _ _ _ _ _ rfl underlying149 zf4 rfl rfl rfl rfl (by intro e he; simp at he; rcases he with rfl | rfl<;>rfl) rfl h165 rfl) rfl<|.g 6 rfl<|.guard fun h166=>?_
       refine .weak ?_ (fun a w h=>Conc.gr_open1 kI h 5 1 y232 (by omega) rfl)
       refine .weak ?_ (fun a w h=>Conc.gr_openV kI h 1 37 y232 (by omega) rfl)
       refine .g 6 rfl<|.guard fun h167=>?_
       obtain ⟨h1671,h1672⟩:=h167
       refine .sv (.rptr 1 kI.sz y230.toNat 0) [] rfl (qc (qb _ _ _ _ _ 1 0 y232.length _ y230 rfl underlying93 zf3 rfl rfl rfl rfl h1671 (by omega)) (Nat.zero_add _)) rfl<|.sv (.agg (kI.enc (⟨⟨(((y232.getD y230.toNat zAI).Lo).M),((y232.getD y230.toNat zAI).Lo).E⟩,⟨(((y232.getD y230.toNat zAI).Hi).M),((y232.getD y230.toNat zAI).Hi).E⟩⟩:AI))) [] rfl (znb kI _ _ 1 y230.toNat 0 6 _ _ rfl zf2 rfl rfl rfl rfl (by first | omega | (simp only [List.length_set]; omega)) (by decide)) rfl<|.g 2 rfl<|.c0 [0] [] [true] rfl rfl (fun _=>rfl) (fun _=>rfl) fun x238 _=>.guard fun h169=>?_
       obtain ⟨h1691,h1692⟩:=h169
       refine .sv (.rptr 1 kI.sz y230.toNat 0) [] rfl (qc (qb _ _ _ _ _ 1 0 y232.length _ y230 rfl underlying93 zf3 rfl rfl rfl rfl h1691 (by omega)) (Nat.zero_add _)) rfl<|.sm [(1,(rwK kI 37 (y232.set y230.toNat (⟨⟨x238.1.Lo.M,x238.1.Lo.E⟩,⟨x238.1.Hi.M,x238.1.Hi.E⟩⟩:AI))))] rfl (znc kI _ _ _ 1 y230.toNat _ _ (⟨⟨x238.1.Lo.M,x238.1.Lo.E⟩,⟨x238.1.Hi.M,x238.1.Hi.E⟩⟩:AI) rfl rfl zf2 rfl rfl rfl rfl (by first | omega | (simp only [List.length_set]; omega))) rfl<|.dn (by kernel_rfl)<|?_
       refine .weak ?_ (fun a w h=>Conc.relen h 5 (((y232.set y230.toNat (⟨⟨x238.1.Lo.M,x238.1.Lo.E⟩,⟨x238.1.Hi.M,x238.1.Hi.E⟩⟩:AI))).length) rfl List.length_set.symm)
       refine .g 1 rfl<|.jw (h159 (x238.2,(y232.set y230.toNat (⟨⟨x238.1.Lo.M,x238.1.Lo.E⟩,⟨x238.1.Hi.M,x238.1.Hi.E⟩⟩:AI)))) [(0,0),(1,1)] rfl
      ·exact .no
   ·refine .g 4 rfl<|.jo (h115 (y231,y232)) rfl fun hE=>jn (m:=1) [(0,0),(1,1)] hE (.g rfl (zC (K:=kI) (by rfl) y232)<|.nil) (.v rfl (.i<|.i<|.nil)<|.cons (.refl _) (zE (K:=kI) 37 y232)<|.nil) rfl
 ·intro h170
  refine .g 1 rfl<|?_
  refine .weak ?_ (fun a w h=>Conc.gr_nil kI h 5 1 37 rfl)
  refine .lo (fun n (x:Int × Int × (List AI))=>zbN a5 a0 a2 a1 a3 n x.1 x.2.1 x.2.2) (fun x=>([eP 0 0,(1,some (.sl [[(.fn 66 [] []),(.int .i64 a0),(.int .i64 a1)],[(.fn 66 [] []),(.int .i64 a2),(.int .i64 a3)]])),(5,some (grA kI 1 x.2.2)),(10,some (.sl [[(.fn 66 [] []),(.int .i64 a0),(.int .i64 a1)],[(.fn 66 [] []),(.int .i64 a2),(.int .i64 a3)]])),eI 11 2,eI 12 x.1],[(0,(.live 54 [(.int .i64 x.2.1),(.int .i64 a5)])),(1,(grV kI 37 x.2.2))])) (0,a4,[]) rfl (fun hE=>jn (m:=1) [(0,0),(1,1)] hE (.p rfl rfl<|.g rfl (Zp (.cons (.cons (zU _ .nil .nil)<|.i<|.i<|.nil) (.cons (.cons (zU _ .nil .nil)<|.i<|.i<|.nil) .nil)))<|.g rfl (zC (K:=kI) (by rfl) [])<|.g rfl (Zp (.cons (.cons (zU _ .nil .nil)<|.i<|.i<|.nil) (.cons (.cons (zU _ .nil .nil)<|.i<|.i<|.nil) .nil)))<|.i rfl<|.i rfl<|.nil) (.v rfl (.i<|.i<|.nil)<|.cons (.refl _) (zE (K:=kI) 37 [])<|.nil) rfl) ?_
  rintro n5 ⟨y268,y269,y270⟩
  try dsimp only
  rw [zbN]
  refine .g 6 rfl<|?_
  refine .cd rfl (fun _ _=>?_) fun _ _=>?_
  ·refine .g 3 rfl<|?_
   refine .cut (fun x:Int × (List AI)=>(zfo (fun z0 z1 z2=>zbN a5 a0 a2 a1 a3 n5 z0 z1 z2) y268 x.1 x.2,[eP 0 0,(1,some (.sl [[(.fn 66 [] []),(.int .i64 a0),(.int .i64 a1)],[(.fn 66 [] []),(.int .i64 a2),(.int .i64 a3)]])),(5,some (.row 3 kI.sz 0 x.2.length)),(10,some (.sl [[(.fn 66 [] []),(.int .i64 a0),(.int .i64 a1)],[(.fn 66 [] []),(.int .i64 a2),(.int .i64 a3)]])),eI 11 2,eI 12 y268],[(0,(.live 54 [(.int .i64 x.1),(.int .i64 a5)])),(3,(rwK kI 37 x.2))])) ?_ ?_
   ·rintro ⟨y279,y280⟩
    dsimp only [zfo]
    refine .g 5 rfl<|.guard fun h221=>?_
    refine .weak ?_ (fun a w h=>Conc.gr_row kI h 5 3 37 y280 rfl rfl (by first | omega | (simp only [List.length_append,List.length_cons,List.length_set]; omega) | simp))
    exact .ao ((i64.wrap (y268+1)),y279,y280) rfl fun hE=>jn (m:=1) [(0,0),(3,1)] hE (.p rfl rfl<|.g rfl (Zp (.cons (.cons (zU _ .nil .nil)<|.i<|.i<|.nil) (.cons (.cons (zU _ .nil .nil)<|.i<|.i<|.nil) .nil)))<|.g rfl (zC (K:=kI) (by rfl) y280)<|.g rfl (Zp (.cons (.cons (zU _ .nil .nil)<|.i<|.i<|.nil) (.cons (.cons (zU _ .nil .nil)<|.i<|.i<|.nil) .nil)))<|.i rfl<|.i rfl<|.nil) (.v rfl (.i<|.i<|.nil)<|.cons (.refl _) (zE (K:=kI) 37 y280)<|.nil) rfl
   ·intro h222
    refine .g 3 rfl<|?_
    refine .ite (fun h223=>?_) (fun h223=>?_)
    ·refine .sv (.iptr [(.fn 66 [] []),(.int .i64 a0),(.int .i64 a1)]) [] rfl (zeO 0 _ _ _ _ _ _ _ _ rfl underlying149 zf4 rfl rfl rfl rfl (by intro e he; simp at he; rcases he with rfl | rfl<;>rfl) rfl h223 rfl) rfl<|.g 12 rfl<|.c0 [0] [] [true] rfl rfl (fun _=>rfl) (fun _=>rfl) fun x281 _=>.g 3 rfl<|.c0 [0] [] [true] rfl rfl (fun _=>rfl) (fun _=>rfl) fun x282 _=>.c0 [0] [] [true] rfl rfl (fun _=>rfl) (fun _=>rfl) fun x283 _=>.c0 [0] [] [true] rfl rfl (fun _=>rfl) (fun _=>rfl) fun x284 _=>.st rfl (bs kI [(⟨⟨x284.1.Lo.M,x284.1.Lo.E⟩,⟨x284.1.Hi.M,x284.1.Hi.E⟩⟩:AI)] rfl rfl) rfl<|.guard fun h228=>.sv (.row 3 kI.sz 0 (((y270++[(⟨⟨x284.1.Lo.M,x284.1.Lo.E⟩,⟨x284.1.Hi.M,x284.1.Hi.E⟩⟩:AI)])).length)) [(3,(rwK kI 37 (y270++[(⟨⟨x284.1.Lo.M,x284.1.Lo.E⟩,⟨x284.1.Hi.M,x284.1.Hi.E⟩⟩:AI)]))),(1,.dead)] rfl (zax kI _ _ _ _ _ 1 3 y270 [(⟨⟨x284.1.Lo.M,x284.1.Lo.E⟩,⟨x284.1.Hi.M,x284.1.Hi.E⟩⟩:AI)] rfl underlying93 zow zox rfl rfl rfl rfl rfl rfl rfl h228) rfl<|.g 1 rfl<|.dn (by kernel_rfl)<|.g 1 rfl<|.jw (h222 (x284.2,(y270++[(⟨⟨x284.1.Lo.M,x284.1.Lo.E⟩,⟨x284.1.Hi.M,x284.1.Hi.E⟩⟩:AI)]))) [(0,0),(3,3)] rfl
    ·refine .ite (fun h229=>?_) (fun h229=>?_)
     ·refine .sv (.iptr [(.fn 66 [] []),(.int .i64 a2),(.int .i64 a3)]) [] rfl (zeO 1 _ _ _ _ _ _ _ _ rfl underlying149 zf4 rfl rfl rfl rfl (by intro e he; simp at he; rcases he with rfl | rfl<;>rfl) rfl h229 rfl) rfl<|.g 12 rfl<|.c0 [0] [] [true] rfl rfl (fun _=>rfl) (fun _=>rfl) fun x285 _=>.g 3 rfl<|.c0 [0] [] [true] rfl rfl (fun _=>rfl) (fun _=>rfl) fun x286 _=>.c0 [0] [] [true] rfl rfl (fun _=>rfl) (fun _=>rfl) fun x287 _=>.c0 [0] [] [true] rfl rfl (fun _=>rfl) (fun _=>rfl) fun x288 _=>.st rfl (bs kI [(⟨⟨x288.1.Lo.M,x288.1.Lo.E⟩,⟨x288.1.Hi.M,x288.1.Hi.E⟩⟩:AI)] rfl rfl) rfl<|.guard fun h234=>.sv (.row 3 kI.sz 0 (((y270++[(⟨⟨x288.1.Lo.M,x288.1.Lo.E⟩,⟨x288.1.Hi.M,x288.1.Hi.E⟩⟩:AI)])).length)) [(3,(rwK kI 37 (y270++[(⟨⟨x288.1.Lo.M,x288.1.Lo.E⟩,⟨x288.1.Hi.M,x288.1.Hi.E⟩⟩:AI)]))),(1,.dead)] rfl (zax kI _ _ _ _ _ 1 3 y270 [(⟨⟨x288.1.Lo.M,x288.1.Lo.E⟩,⟨x288.1.Hi.M,x288.1.Hi.E⟩⟩:AI)] rfl underlying93 zow zox rfl rfl rfl rfl rfl rfl rfl h234) rfl<|.g 1 rfl<|.dn (by kernel_rfl)<|.g 1 rfl<|.jw (h222 (x288.2,(y270++[(⟨⟨x288.1.Lo.M,x288.1.Lo.E⟩,⟨x288.1.Hi.M,x288.1.Hi.E⟩⟩:AI)]))) [(0,0),(3,3)] rfl
     ·exact .no
  ·refine .g 4 rfl<|.jo (h170 (y269,y270)) rfl fun hE=>jn (m:=1) [(0,0),(1,1)] hE (.p rfl rfl<|.g rfl (Zp (.cons (.cons (zU _ .nil .nil)<|.i<|.i<|.nil) (.cons (.cons (zU _ .nil .nil)<|.i<|.i<|.nil) .nil)))<|.g rfl (zC (K:=kI) (by rfl) y270)<|.nil) (.v rfl (.i<|.i<|.nil)<|.cons (.refl _) (zE (K:=kI) 37 y270)<|.nil) rfl
instance zGq (a0:Int) (a1:Int):CC (zhL a0 a1) prog 26 [(.ptr 0 0)] [(.live 54 [(.int .i64 a0),(.int .i64 a1)])] (fun r=>(.agg (kI.enc r.1))) (fun r=>[(.live 54 [(.int .i64 r.2),(.int .i64 a1)])]):=cc func26 (by kernel_rfl) rfl fun E=>by
 unfold zhL
 exact wk
instance zGr (a0:List AI) (a1:Int) (a2:Int) (a3:Int):CC (zhM a0 a1 a2 a3) prog 180 [(.ptr 0 0),(slK kI a0)] [(.live 175 [(.ptr 1 0),(.int .i64 a1)]),(.live 54 [(.int .i64 a2),(.int .i64 a3)])] (fun r=>(.agg (kI.enc r.1))) (fun r=>[(.live 175 [(.ptr 1 0),(.int .i64 a1)]),(.live 54 [(.int .i64 r.2),(.int .i64 a3)])]):=cc func180 (by kernel_rfl) rfl fun E=>by
 unfold zhM
 have:L8 (zfp a0 a3) fun ya yb yc yd ye yf yg yh=>([eP 0 0,eP 4 2,eP 5 3,eK kI 12 ((a0.take a0.length).drop 1),eI 13 (((a0.take a0.length).drop 1).length:Int),eI 14 ya],[(0,(.live 175 [(.ptr 1 0),(.int .i64 a1)])),(1,(.live 54 [(.int .i64 yb),(.int .i64 a3)])),(2,(.live 37 [(.bool false),(slK kU []),(.int .i64 0),(.bool false),(slK kU []),(.int .i64 0)])),(3,(.live 37 [(.bool yc),(slK kU yd),(.int .i64 ye),(.bool yf),(slK kU yg),(.int .i64 yh)]))]):={}
 exact wk
instance zGs (a0:Int):PC (zaG a0) prog 48 [(.int .i64 a0)] (fun r=>(.tup [(.int .i64 r.1),(.int .i64 r.2.1),(.bool r.2.2)])):=pc func48 (by kernel_rfl) rfl fun E=>by
 unfold zaG
 exact wk
instance {a3 x279 x276 y322 y323 y324 y325 y326 y327 a1} : L14 (zfq a3 x279 x276 y322 y323 y324 y325 y326 y327 a1) fun ya yb yc yd ye yf yg yh yi yj yk yl ym yn=>([eP 0 0,eP 4 3,eI 5 x276.1,eP 7 4,eP 8 5,eP 11 6,eP 12 7,eI 13 ya],[(0,(.live 175 [(.ptr 1 0),(.int .i64 a1)])),(1,(.live 54 [(.int .i64 yb),(.int .i64 a3)])),(3,(.live 37 [(.bool false),(slK kU []),(.int .i64 0),(.bool false),(slK kU []),(.int .i64 0)])),(4,(.live 37 [(.bool x279.1.Lo.M.Neg),(slK kU x279.1.Lo.M.Mag),(.int .i64 x279.1.Lo.E),(.bool x279.1.Hi.M.Neg),(slK kU x279.1.Hi.M.Mag),(.int .i64 x279.1.Hi.E)])),(5,(.live 37 [(.bool y322),(slK kU y323),(.int .i64 y324),(.bool y325),(slK kU y326),(.int .i64 y327)])),(6,(.live 37 [(.bool yc),(slK kU yd),(.int .i64 ye),(.bool yf),(slK kU yg),(.int .i64 yh)])),(7,(.live 37 [(.bool yi),(slK kU yj),(.int .i64 yk),(.bool yl),(slK kU ym),(.int .i64 yn)]))]):={}
instance {x276 a0 a3 x279 a1} : L8 (zfr x276 a0 a3 x279 a1) fun ya yb yc yd ye yf yg yh=>([eP 0 0,eP 3 2,eP 4 3,eI 5 x276.1,eP 7 4,eP 8 5,eI 44 x276.1,eI 45 ya],[(0,(.live 175 [(.ptr 1 0),(.int .i64 a1)])),(1,(.live 54 [(.int .i64 yb),(.int .i64 a3)])),(2,(.live 26 [(.bool a0.M.Neg),(slK kU a0.M.Mag),(.int .i64 a0.E)])),(3,(.live 37 [(.bool false),(slK kU []),(.int .i64 0),(.bool false),(slK kU []),(.int .i64 0)])),(4,(.live 37 [(.bool x279.1.Lo.M.Neg),(slK kU x279.1.Lo.M.Mag),(.int .i64 x279.1.Lo.E),(.bool x279.1.Hi.M.Neg),(slK kU x279.1.Hi.M.Mag),(.int .i64 x279.1.Hi.E)])),(5,(.live 37 [(.bool yc),(slK kU yd),(.int .i64 ye),(.bool yf),(slK kU yg),(.int .i64 yh)]))]):={}
instance zGt (a0:AD) (a1:Int) (a2:Int) (a3:Int):CC (zdZ a0 a1 a2 a3) prog 113 [(.ptr 0 0),(.agg (kD.enc a0))] [(.live 175 [(.ptr 1 0),(.int .i64 a1)]),(.live 54 [(.int .i64 a2),(.int .i64 a3)])] (fun r=>(.agg (kI.enc r.1))) (fun r=>[(.live 175 [(.ptr 1 0),(.int .i64 a1)]),(.live 54 [(.int .i64 r.2),(.int .i64 a3)])]):=cc func113 (by kernel_rfl) rfl fun E=>by
 unfold zdZ
 exact wk
instance zGu (a0:AI) (a1:Int) (a2:Int) (a3:Int) (a4:Int):CC (zaH a0 a1 a2 a3 a4) prog 112 [(.ptr 0 0),(.agg (kI.enc a0)),(.int .i64 a1)] [(.live 175 [(.ptr 1 0),(.int .i64 a2)]),(.live 54 [(.int .i64 a3),(.int .i64 a4)])] (fun r=>(.tup [(.agg (kI.enc r.1)),(.int .i64 r.2)])) (fun r=>[(.live 175 [(.ptr 1 0),(.int .i64 a2)]),(.live 54 [(.int .i64 a3),(.int .i64 a4)])]):=cc func112 (by kernel_rfl) rfl fun E=>by
 unfold zaH
 exact wk
instance zGv (a0:Int) (a1:AI) (a2:Int) (a3:Int) (a4:Bool) (a5:List Int) (a6:Int) (a7:Bool) (a8:List Int) (a9:Int):CC (zkE a0 a1 a2 a3 a4 a5 a6 a7 a8 a9) prog 246 [(.int .i64 a0),(.agg (kI.enc a1)),(.ptr 0 0),(.ptr 2 0)] [(.live 29 [(.ptr 1 0)]),(.live 54 [(.int .i64 a2),(.int .i64 a3)]),(.live 37 [(.bool a4),(slK kU a5),(.int .i64 a6),(.bool a7),(slK kU a8),(.int .i64 a9)])] (fun r=>(.agg (kI.enc r.1))) (fun r=>[(.live 29 [(.ptr 1 0)]),(.live 54 [(.int .i64 r.2),(.int .i64 a3)]),(.live 37 [(.bool a4),(slK kU a5),(.int .i64 a6),(.bool a7),(slK kU a8),(.int .i64 a9)])]):=cc func246 (by kernel_rfl) rfl fun E=>by
 unfold zkE
 exact wk
instance zGw (a0:Int) (a1:AI) (a2:Int) (a3:Int) (a4:Bool) (a5:List Int) (a6:Int) (a7:Bool) (a8:List Int) (a9:Int):CC (zhN a0 a1 a2 a3 a4 a5 a6 a7 a8 a9) prog 239 [(.int .i64 a0),(.agg (kI.enc a1)),(.ptr 0 0)] [(.live 191 [(.fn 246 [] [(.ptr 1 0),(.ptr 3 0)])]),(.live 29 [(.ptr 2 0)]),(.live 54 [(.int .i64 a2),(.int .i64 a3)]),(.live 37 [(.bool a4),(slK kU a5),(.int .i64 a6),(.bool a7),(slK kU a8),(.int .i64 a9)])] (fun r=>(.tup [(.agg (kI.enc r.1)),(.agg (kI.enc r.2.1))])) (fun r=>[(.live 191 [(.fn 246 [] [(.ptr 1 0),(.ptr 3 0)])]),(.live 29 [(.ptr 2 0)]),(.live 54 [(.int .i64 r.2.2),(.int .i64 a3)]),(.live 37 [(.bool a4),(slK kU a5),(.int .i64 a6),(.bool a7),(slK kU a8),(.int .i64 a9)])]):=cc func239 (by kernel_rfl) rfl fun E=>by
 unfold zhN
 exact wk
instance {x94 a2 a3 a4 a5 a6 a7 a8} : L14 (zfs x94 a2 a3 a4 a5 a6 a7 a8) fun ya yb yc yd ye yf yg yh yi yj yk yl ym yn=>([eP 0 0,(2,some (.fn 239 [] [(.ptr 1 0)])),eP 6 5,eP 7 6,eP 8 7,eI 15 x94,eI 16 ya],[(0,(.live 54 [(.int .i64 yb),(.int .i64 a2)])),(1,(.live 191 [(.fn 246 [] [(.ptr 2 0),(.ptr 3 0)])])),(2,(.live 29 [(.ptr 0 0)])),(3,(.live 37 [(.bool a3),(slK kU a4),(.int .i64 a5),(.bool a6),(slK kU a7),(.int .i64 a8)])),(5,(.live 37 [(.bool false),(slK kU []),(.int .i64 0),(.bool false),(slK kU []),(.int .i64 0)])),(6,(.live 37 [(.bool yc),(slK kU yd),(.int .i64 ye),(.bool yf),(slK kU yg),(.int .i64 yh)])),(7,(.live 37 [(.bool yi),(slK kU yj),(.int .i64 yk),(.bool yl),(slK kU ym),(.int .i64 yn)]))]):={}
instance zGx (a0:AI) (a1:Int) (a2:Int) (a3:Bool) (a4:List Int) (a5:Int) (a6:Bool) (a7:List Int) (a8:Int):CC (zkF a0 a1 a2 a3 a4 a5 a6 a7 a8) prog 197 [(.ptr 0 0),(.agg (kI.enc a0)),(.fn 239 [] [(.ptr 1 0)])] [(.live 54 [(.int .i64 a1),(.int .i64 a2)]),(.live 191 [(.fn 246 [] [(.ptr 2 0),(.ptr 3 0)])]),(.live 29 [(.ptr 0 0)]),(.live 37 [(.bool a3),(slK kU a4),(.int .i64 a5),(.bool a6),(slK kU a7),(.int .i64 a8)])] (fun r=>(.agg (kI.enc r.1))) (fun r=>[(.live 54 [(.int .i64 r.2),(.int .i64 a2)]),(.live 191 [(.fn 246 [] [(.ptr 2 0),(.ptr 3 0)])]),(.live 29 [(.ptr 0 0)]),(.live 37 [(.bool a3),(slK kU a4),(.int .i64 a5),(.bool a6),(slK kU a7),(.int .i64 a8)])]):=cc func197 (by kernel_rfl) rfl fun E=>by
 unfold zkF
 exact wk
instance zGy (a0:AI) (a1:Int) (a2:Int) (a3:Bool) (a4:List Int) (a5:Int) (a6:Bool) (a7:List Int) (a8:Int):CC (zkG a0 a1 a2 a3 a4 a5 a6 a7 a8) prog 200 [(.ptr 0 0),(.agg (kI.enc a0)),(.fn 246 [] [(.ptr 1 0),(.ptr 2 0)])] [(.live 54 [(.int .i64 a1),(.int .i64 a2)]),(.live 29 [(.ptr 0 0)]),(.live 37 [(.bool a3),(slK kU a4),(.int .i64 a5),(.bool a6),(slK kU a7),(.int .i64 a8)])] (fun r=>(.agg (kI.enc r.1))) (fun r=>[(.live 54 [(.int .i64 r.2),(.int .i64 a2)]),(.live 29 [(.ptr 0 0)]),(.live 37 [(.bool a3),(slK kU a4),(.int .i64 a5),(.bool a6),(slK kU a7),(.int .i64 a8)])]):=cc func200 (by kernel_rfl) rfl fun E=>by
 unfold zkG
 exact wk
instance zGz (a0:AI) (a1:Int) (a2:Int):CC (zhO a0 a1 a2) prog 211 [(.ptr 0 0),(.agg (kI.enc a0))] [(.live 54 [(.int .i64 a1),(.int .i64 a2)])] (fun r=>(.agg (kI.enc r.1))) (fun r=>[(.live 54 [(.int .i64 r.2),(.int .i64 a2)])]):=cc func211 (by kernel_rfl) rfl fun E=>by
 unfold zhO
 exact wk
instance {y66 x69 a1} : L8 (zft y66 x69 a1) fun ya yb yc yd ye yf yg yh=>([eI 1 a1,eP 4 1,eP 9 2,eP 11 3,eI 48 y66,eI 49 ya],[(1,(.live 37 [(.bool false),(slK kU []),(.int .i64 0),(.bool false),(slK kU []),(.int .i64 0)])),(2,(.live 54 [(.int .i64 yb),(.int .i64 x69.2.2)])),(3,(.live 37 [(.bool yc),(slK kU yd),(.int .i64 ye),(.bool yf),(slK kU yg),(.int .i64 yh)]))]):={}
instance zGA (a0:AD) (a1:Int):PC (zfu a0 a1) prog 148 [(.agg (kD.enc a0)),(.int .i64 a1)] (fun r=>(.tup [(.agg (kI.enc r.1)),(.int .i64 r.2)])):=pc func148 (by kernel_rfl) rfl fun E=>by
 unfold zfu
 exact wk
instance zGB (a0:AI) (a1:Int):PC (zkI a0 a1) prog 183 [(.agg (kI.enc a0)),(.int .i64 a1),(.fn 148 [] [])] (fun r=>(.tup [(.agg (kI.enc r.1)),(.int .i64 r.2)])):=pc func183 (by kernel_rfl) rfl fun E=>by
 unfold zkI
 exact wk
instance zGC (a0:AI) (a1:Int):PC (zfv a0 a1) prog 115 [(.agg (kI.enc a0)),(.int .i64 a1)] (fun r=>(.tup [(.agg (kI.enc r.1)),(.int .i64 r.2)])):=pc func115 (by kernel_rfl) rfl fun E=>by
 unfold zfv
 exact wk
instance zGD (a0:AD) (a1:Int):PC (Zr a0 a1) prog 53 [(.agg (kD.enc a0)),(.int .i64 a1)] (fun r=>(.tup [(.agg (kI.enc r.1)),(.int .i64 r.2)])):=pc func53 (by kernel_rfl) rfl fun E=>by
 unfold Zr
 exact wk
instance zGE (a0:za):PC (zhP a0) prog 188 [(.agg (kN.enc a0))] (fun r=>(.bool r)):=pc func188 (by kernel_rfl) rfl fun E=>by
 unfold zhP
 exact wk
instance zGF (a0:AD):PC (qB a0) prog 120 [(.agg (kD.enc a0))] (fun r=>(.bool r)):=pc func120 (by kernel_rfl) rfl fun E=>by
 unfold qB
 exact wk
instance {a0 a1} : L1 (zfx a0 a1) fun ya=>([eL 0 a0,eL 1 a1,eI 5 ya],[]):={}
instance zGG (a0:List Int) (a1:List Int):PC (zba a0 a1) prog 217 [(slK kU a0),(slK kU a1)] (fun r=>(.int .i64 r)):=pc func217 (by kernel_rfl) rfl fun E=>by
 unfold zba
 exact wk
instance zGH (a0:za) (a1:za):PC (zfy a0 a1) prog 189 [(.agg (kN.enc a0)),(.agg (kN.enc a1))] (fun r=>(.int .i64 r)):=pc func189 (by kernel_rfl) rfl fun E=>by
 unfold zfy
 exact wk
instance:L2 zfz fun ya yb=>([eI 4 ya,eW 5 yb],[]):={}
instance zGI (a0:List Int):PC (ZU a0) prog 156 [(slK kU a0)] (fun r=>(.int .i64 r)):=pc func156 (by kernel_rfl) rfl fun E=>by
 unfold ZU
 exact wk
instance zGJ (a0:AD):PC (zaI a0) prog 190 [(.agg (kD.enc a0))] (fun r=>(.int .i64 r)):=pc func190 (by kernel_rfl) rfl fun E=>by
 unfold zaI
 exact wk
instance zGK (a0:List Int) (a1:Int):PC (QK a0 a1) prog 216 [(slK kU a0),(.int .i64 a1)] (fun r=>(.tup [(slK kU r.1),(.bool r.2)])):=pc func216 (by kernel_rfl) rfl fun E=>by
 unfold QK
 refine .g 8 rfl<|?_
 refine .cut (fun x:Bool=>(zfA a1 a0 x,[eL 0 a0,eI 1 a1,eB 15 x],[])) ?_ ?_
 ·rintro y17
  dsimp only [zfA]
  refine .g 1 rfl<|?_
  refine .cd rfl (fun _ _=>?_) fun _ _=>?_
  ·refine .g 8 rfl<|.fj rfl rfl (by exact .tup (.cons AVle.nil (.cons (AVle.refl _) .nil)))
  ·refine .g 6 rfl<|.guard fun h4=>.sv (.row 0 (kInt .u32).sz 0 (((List.replicate ((i64.wrap (a1.tdiv 32)).toNat) (kInt .u32).z)).length)) [(0,(rwK kU 134 (List.replicate ((i64.wrap (a1.tdiv 32)).toNat) (kInt .u32).z)))] rfl (Q4 kU _ _ _ _ _ 0 _ _ _ rfl underlying22 q9 Zd (by decide) rfl rfl rfl rfl rfl h4) rfl<|.g 14 rfl<|?_
   refine .cut (fun x:Int × (List Int)=>(zkK x.1 x.2,[(6,some (.row 0 (kInt .u32).sz 0 x.2.length)),eX 7 x.1],[(0,(rwK kU 134 x.2))])) ?_ ?_
   ·rintro ⟨y24,y25⟩
    dsimp only [zkK]
    refine .g 6 rfl<|.st rfl (bs kU [(u32.wrap y24)] rfl rfl) rfl<|.guard fun h29=>.sv (.row 1 (kInt .u32).sz 0 (((y25++[(u32.wrap y24)])).length)) [(1,(rwK kU 134 (y25++[(u32.wrap y24)]))),(0,.dead)] rfl (zg4 kU _ _ _ _ _ 0 1 y25 [(u32.wrap y24)] rfl underlying22 q9 Zd rfl rfl rfl rfl rfl rfl h29) rfl<|?_
    refine .weak ?_ (fun a w h=>Conc.freezeK kU h 46 1 0 (((y25++[(u32.wrap y24)])).length) 134 (y25++[(u32.wrap y24)]) rfl rfl (by omega))
    refine .weak ?_ (fun a w h=>ZO h)
    refine .p0 rfl rfl fun x26 _=>.g 5 rfl<|.fi rfl rfl
   ·intro h31
    refine .g 1 rfl<|?_
    refine .lp (fun n (x:Int × Int × (List Int))=>zd0 a0 a1 n x.1 x.2.1 x.2.2) (fun x=>([eL 0 a0,eI 1 a1,(6,some (.row 0 (kInt .u32).sz 0 x.2.2.length)),eX 7 x.1,eI 8 x.2.1],[(0,(rwK kU 134 x.2.2))])) (0,0,(List.replicate ((i64.wrap (a1.tdiv 32)).toNat) (kInt .u32).z)) [(0,0)] rfl ?_
    rintro n3 ⟨y30,y31,y32⟩
    try dsimp only
    rw [zd0]
    refine .g 5 rfl<|.ln rfl rfl<|.g 3 rfl<|?_
    refine .cd rfl (fun _ _=>?_) fun _ _=>?_
    ·refine .g 8 rfl<|.ix rfl rfl<|.g 4 rfl<|.guard fun h54=>.st rfl (zjt _ _ _ _ _ _ _ _ rfl rfl rfl rfl rfl h54) rfl<|.g 10 rfl<|.st rfl (bs kU [(u32.wrap (orI .u64 (shlI .u64 (u64.wrap (a0.getD y31.toNat (kInt .u32).z)) (a1.tmod 32)) y30))] rfl rfl) rfl<|.guard fun h55=>.sv (.row 1 (kInt .u32).sz 0 (((y32++[(u32.wrap (orI .u64 (shlI .u64 (u64.wrap (a0.getD y31.toNat (kInt .u32).z)) (a1.tmod 32)) y30))])).length)) [(1,(rwK kU 134 (y32++[(u32.wrap (orI .u64 (shlI .u64 (u64.wrap (a0.getD y31.toNat (kInt .u32).z)) (a1.tmod 32)) y30))]))),(0,.dead)] rfl (zg4 kU _ _ _ _ _ 0 1 y32 [(u32.wrap (orI .u64 (shlI .u64 (u64.wrap (a0.getD y31.toNat (kInt .u32).z)) (a1.tmod 32)) y30))] rfl underlying22 q9 Zd rfl rfl rfl rfl rfl rfl h55) rfl<|.g 15 rfl<|.ag ((shrI .u64 (orI .u64 (shlI .u64 (u64.wrap (a0.getD y31.toNat (kInt .u32).z)) (a1.tmod 32)) y30) 32),(i64.wrap (y31+1)),(y32++[(u32.wrap (orI .u64 (shlI .u64 (u64.wrap (a0.getD y31.toNat (kInt .u32).z)) (a1.tmod 32)) y30))])) [(1,0)] rfl
    ·refine .g 4 rfl<|.jw (h31 (y30,y32)) [(0,0)] rfl
 ·intro h56
  refine .g 4 rfl<|?_
  refine .gd 12 rfl (fun _=>?_) fun _=>?_
  ·refine .g 4 rfl<|.jw (h56 true) [] rfl
  ·refine .g 4 rfl<|.jw (h56 (decide (a1>100000))) [] rfl
instance {a0} : L2 (zfB a0) fun ya yb=>([eI 1 ya,eP 2 0,eP 4 1,eL 5 yb],[(0,(.live 24 [(.bool a0.Neg),(slK kU a0.Mag)])),(1,(.live 24 [(.bool false),(slK kU [])]))]):={}
instance zGL (a0:za) (a1:Int):PC (zcB a0 a1) prog 159 [(.agg (kN.enc a0)),(.int .i64 a1)] (fun r=>(.agg (kN.enc r))):=pc func159 (by kernel_rfl) rfl fun E=>by
 unfold zcB
 exact wk
instance zGM (a0:AD) (a1:AD):PC (zfC a0 a1) prog 191 [(.agg (kD.enc a0)),(.agg (kD.enc a1))] (fun r=>(.tup [(.agg (kN.enc r.1)),(.agg (kN.enc r.2.1)),(.int .i64 r.2.2)])):=pc func191 (by kernel_rfl) rfl fun E=>by
 unfold zfC
 exact wk
instance zGN (a0:AD) (a1:AD):PC (zaa a0 a1) prog 121 [(.agg (kD.enc a0)),(.agg (kD.enc a1))] (fun r=>(.int .i64 r)):=pc func121 (by kernel_rfl) rfl fun E=>by
 unfold zaa
 exact wk
instance zGO (a0:AI):PC (Qr a0) prog 119 [(.agg (kI.enc a0))] (fun r=>(.bool r)):=pc func119 (by kernel_rfl) rfl fun E=>by
 unfold Qr
 exact wk
instance zGP (a0:AI) (a1:AD):PC (zbO a0 a1) prog 57 [(.agg (kI.enc a0)),(.agg (kD.enc a1))] (fun r=>(.bool r)):=pc func57 (by kernel_rfl) rfl fun E=>by
 unfold zbO
 exact wk
instance zGQ:PC zhS prog 44 [] (fun r=>(.bool r)):=pc func44 (by kernel_rfl) rfl fun E=>by
 unfold zhS
 refine .g 7 rfl<|.p0 rfl rfl fun x12 _=>.p0 rfl rfl fun x13 _=>.g 10 rfl<|.p0 rfl rfl fun x14 _=>.g 10 rfl<|.p0 rfl rfl fun x15 _=>.g 11 rfl<|.p0 rfl rfl fun x16 _=>.p0 rfl rfl fun x17 _=>.g 9 rfl<|?_
 refine .cut (fun x:Bool=>(zaJ x,[eB 0 x],[])) ?_ ?_
 ·rintro y20
  dsimp only [zaJ]
  refine .g 2 rfl<|.fi rfl rfl
 ·intro h16
  refine .g 4 rfl<|?_
  refine .gd 32 rfl (fun _=>?_) fun _=>?_
  ·refine .g 4 rfl<|?_
   refine .gd 36 rfl (fun _=>?_) fun _=>?_
   ·refine .g 4 rfl<|?_
    refine .gd 40 rfl (fun _=>?_) fun _=>?_
    ·refine .g 4 rfl<|?_
     refine .gd 44 rfl (fun _=>?_) fun _=>?_
     ·refine .g 4 rfl<|?_
      refine .gd 48 rfl (fun _=>?_) fun _=>?_
      ·refine .g 3 rfl<|?_
       refine .gd 51 rfl (fun _=>?_) fun _=>?_
       ·refine .g 4 rfl<|?_
        refine .gd 55 rfl (fun _=>?_) fun _=>?_
        ·refine .g 1 rfl<|.p0 rfl rfl fun x21 _=>.p0 rfl rfl fun x22 _=>.g 2 rfl<|.dn (by kernel_rfl)<|.jw (h16 x22) [] rfl
        ·refine .g 5 rfl<|.dn (by kernel_rfl)<|.jw (h16 false) [] rfl
       ·refine .g 9 rfl<|.dn (by kernel_rfl)<|.jw (h16 false) [] rfl
      ·refine .g 12 rfl<|.dn (by kernel_rfl)<|.jw (h16 false) [] rfl
     ·refine .g 16 rfl<|.dn (by kernel_rfl)<|.jw (h16 false) [] rfl
    ·refine .g 20 rfl<|.dn (by kernel_rfl)<|.jw (h16 false) [] rfl
   ·refine .g 24 rfl<|.dn (by kernel_rfl)<|.jw (h16 false) [] rfl
  ·refine .g 28 rfl<|.dn (by kernel_rfl)<|.jw (h16 false) [] rfl
instance zGR (a0:AD) (a1:Int):PC (zhT a0 a1) prog 45 [(.agg (kD.enc a0)),(.int .i64 a1)] (fun r=>(.agg (kD.enc r))):=pc func45 (by kernel_rfl) rfl fun E=>by
 unfold zhT
 exact wk
instance zGS (a0:AD):PC (zcC a0) prog 122 [(.agg (kD.enc a0))] (fun r=>(.bool r)):=pc func122 (by kernel_rfl) rfl fun E=>by
 unfold zcC
 exact wk
instance zGT (a0:za) (a1:Int):PC (zhU a0 a1) prog 58 [(.agg (kN.enc a0)),(.int .i64 a1)] (fun r=>(.tup [(.agg (kD.enc r.1)),(.bool r.2)])):=pc func58 (by kernel_rfl) rfl fun E=>by
 unfold zhU
 exact wk
instance zGU (a0:Int):PC (zbb a0) prog 177 [(.int .i64 a0)] (fun r=>(.agg (kD.enc r))):=pc func177 (by kernel_rfl) rfl fun E=>by
 unfold zbb
 exact wk
instance zGV (a0:AD) (a1:Int):PC (zbc a0 a1) prog 110 [(.agg (kD.enc a0)),(.int .i64 a1)] (fun r=>(.int .i64 r)):=pc func110 (by kernel_rfl) rfl fun E=>by
 unfold zbc
 exact wk
instance zGW (a0:List Int) (a1:List Int):PC (zcD a0 a1) prog 218 [(slK kU a0),(slK kU a1)] (fun r=>(slK kU r)):=pc func218 (by kernel_rfl) rfl fun E=>by
 unfold zcD
 refine .g 21 rfl<|?_
 refine .cut (fun x:(List Int)=>(zkM x,[(5,some (grA kU 0 x))],[(0,(grV kU 134 x))])) ?_ ?_
 ·rintro y57
  dsimp only [zkM]
  refine .g 2 rfl<|?_
  refine .weak ?_ (fun a w h=>Conc.gr_still kU h 5 0 134 y57 rfl rfl)
  refine .g 2 rfl<|.p0 rfl rfl fun x58 _=>.g 4 rfl<|.fi rfl rfl
 ·intro h26
  refine .g 1 rfl<|?_
  refine .weak ?_ (fun a w h=>Conc.gr_nil kU h 5 0 134 rfl)
  refine .lo (fun n (x:Int × Int × (List Int))=>zd1 a0 a1 n x.1 x.2.1 x.2.2) (fun x=>([eL 0 a0,eL 1 a1,(5,some (grA kU 0 x.2.2)),eX 6 x.1,eI 7 x.2.1],[(0,(grV kU 134 x.2.2))])) (0,0,[]) rfl (fun hE=>jn (m:=0) [(0,0)] hE (.l rfl<|.l rfl<|.g rfl (zC (K:=kU) (by rfl) [])<|.i rfl<|.i rfl<|.nil) (.cons (.refl _) (zE (K:=kU) 134 [])<|.nil) rfl) ?_
  rintro n2 ⟨y70,y71,y72⟩
  try dsimp only
  rw [zd1]
  refine .g 5 rfl<|.ln rfl rfl<|.g 1 rfl<|.ln rfl rfl<|.g 5 rfl<|?_
  refine .cd rfl (fun _ _=>?_) fun _ _=>?_
  ·refine .g 8 rfl<|.p0 rfl rfl fun x75 _=>.g 2 rfl<|.p0 rfl rfl fun x76 _=>.g 11 rfl<|.st rfl (bs kU [(u32.wrap (u64.wrap ((u64.wrap (x75+x76))+y70)))] rfl rfl) rfl<|.guard fun h50=>.sv (.row 1 (kInt .u32).sz 0 (((y72++[(u32.wrap (u64.wrap ((u64.wrap (x75+x76))+y70)))])).length)) [(1,(rwK kU 134 (y72++[(u32.wrap (u64.wrap ((u64.wrap (x75+x76))+y70)))]))),(0,.dead)] rfl (zax kU _ _ _ _ _ 0 1 y72 [(u32.wrap (u64.wrap ((u64.wrap (x75+x76))+y70)))] rfl underlying22 q9 Zd rfl rfl rfl rfl rfl rfl rfl h50) rfl<|.g 15 rfl<|?_
   refine .weak ?_ (fun a w h=>Conc.gr_row kU h 5 1 134 (y72++[(u32.wrap (u64.wrap ((u64.wrap (x75+x76))+y70)))]) rfl rfl (by first | omega | (simp only [List.length_append,List.length_cons,List.length_set]; omega) | simp))
   exact .ao ((shrI .u64 (u64.wrap ((u64.wrap (x75+x76))+y70)) 32),(i64.wrap (y71+1)),(y72++[(u32.wrap (u64.wrap ((u64.wrap (x75+x76))+y70)))])) rfl fun hE=>jn (m:=0) [(1,0)] hE (.l rfl<|.l rfl<|.g rfl (zC (K:=kU) (by rfl) (y72++[(u32.wrap (u64.wrap ((u64.wrap (x75+x76))+y70)))]))<|.i rfl<|.i rfl<|.nil) (.cons (.refl _) (zE (K:=kU) 134 (y72++[(u32.wrap (u64.wrap ((u64.wrap (x75+x76))+y70)))]))<|.nil) rfl
  ·refine .g 4 rfl<|.jo (h26 y72) rfl fun hE=>jn (m:=0) [(0,0)] hE (.g rfl (zC (K:=kU) (by rfl) y72)<|.nil) (.cons (.refl _) (zE (K:=kU) 134 y72)<|.nil) rfl
instance zGX (a0:za) (a1:Int):PC (zfF a0 a1) prog 160 [(.agg (kN.enc a0)),(.int .i64 a1)] (fun r=>(.tup [(.agg (kN.enc r.1)),(.bool r.2)])):=pc func160 (by kernel_rfl) rfl fun E=>by
 unfold zfF
 exact wk
instance zGY (a0:AD):PC (zhW a0) prog 97 [(.agg (kD.enc a0))] (fun r=>(.tup [(.agg (kN.enc r.1)),(.int .i64 r.2)])):=pc func97 (by kernel_rfl) rfl fun E=>by
 unfold zhW
 exact wk
instance zGZ (a0:List Int):PC (zhX a0) prog 161 [(slK kU a0)] (fun r=>(.tup [(.int .u64 r.1),(.bool r.2)])):=pc func161 (by kernel_rfl) rfl fun E=>by
 unfold zhX
 exact wk
instance zG0 (a0:za):PC (zhZ a0) prog 98 [(.agg (kN.enc a0))] (fun r=>(.tup [(.int .i64 r.1),(.bool r.2)])):=pc func98 (by kernel_rfl) rfl fun E=>by
 unfold zhZ
 exact wk
instance zG1 (a0:AD):PC (zbd a0) prog 47 [(.agg (kD.enc a0))] (fun r=>(.tup [(.int .i64 r.1),(.int .i64 r.2)])):=pc func47 (by kernel_rfl) rfl fun E=>by
 unfold zbd
 exact wk
end Go.Proofs.YtjffljhmjdljeaaGreat.Gen
