/- Printed by geng.py: a call does what the plain function says. -/
import Derived.Test.YtjfcghliglfapaaGreatExpoLnGenP4
set_option maxRecDepth 4000
namespace Go.Proofs.YtjfcghliglfapaaGreat.Gen
open Go Go.Abs Go.Proofs Go.Proofs.Tryz
instance r03_DivMod_i (a0:List Int) (a1:List Int):PC (r03_DivMod a0 a1) Tryz.prog 208 [(slK (kInt .u32) a0),(slK (kInt .u32) a1)] (fun r=>(.tup [(slK (kInt .u32) r.1),(slK (kInt .u32) r.2.1),(.bool r.2.2)])):=pc func208 (by kernel_rfl) rfl fun E=>by
 unfold r03_DivMod
 refine .g 10 rfl<|.p0 rfl rfl fun x694 _=>.g 7 rfl<|.ln rfl rfl<|.g 3 rfl<|?_
 refine .cd rfl (fun _ _=>?_) fun _ _=>?_
 ·refine .g 9 rfl<|.fj rfl rfl (.tup (.cons AVle.nil (.cons AVle.nil (.cons (AVle.refl _) .nil))))
 ·refine .g 6 rfl<|.ln rfl rfl<|.g 3 rfl<|?_
  refine .cd rfl (fun _ _=>?_) fun _ _=>?_
  ·refine .g 4 rfl<|.ix rfl rfl<|.g 2 rfl<|.p0 rfl rfl fun x695 _=>.g 18 rfl<|.fi rfl rfl
  ·refine .g 5 rfl<|.ln rfl rfl<|.g 2 rfl<|.p0 rfl rfl fun x696 _=>.g 8 rfl<|.p0 rfl rfl fun x697 _=>.g 10 rfl<|.p0 rfl rfl fun x698 _=>.g 10 rfl<|.ln rfl rfl<|.guard fun h11=>.sv (.row 0 (kInt .u32).sz 0 (((List.replicate x698.1.length (kInt .u32).z)).length)) [(0,(rwK (kInt .u32) 79 (List.replicate x698.1.length (kInt .u32).z)))] rfl (snd_makeK (kInt .u32) _ _ _ _ _ 0 _ _ _ rfl underlying22 ze79 sb79 (by decide) rfl rfl rfl rfl rfl h11) rfl<|.g 12 rfl<|.ln rfl rfl<|?_
   refine .g 4 rfl<|?_
   refine .cut (fun x:(List Int) × (List Int)=>(r03_DivMod_j1 x694 x696 x.1 x.2,[eI 10 (IntKind.i64.wrap ((IntKind.i64.wrap (32*(x694.length:Int)))-x696)),(13,some (.row 0 (kInt .u32).sz 0 ((x.2).length))),eL 14 x.1],[(0,(rwK (kInt .u32) 79 x.2))])) ?_ ?_
   ·rintro ⟨y1041,y1042⟩
    dsimp only [r03_DivMod_j1]
    refine .g 2 rfl<|?_
    refine .weak ?_ (fun a w h=>Conc.freezeK (kInt .u32) h 13 0 0 ((y1042).length) 79 y1042 rfl rfl (by omega))
    refine .weak ?_ (fun a w h=>take_all h)
    refine .g 2 rfl<|.p0 rfl rfl fun x1043 _=>.g 2 rfl<|.p0 rfl rfl fun x1044 _=>.g 6 rfl<|.fi rfl rfl
   ·intro h356
    refine .g 1 rfl<|?_
    refine .weak ?_ (fun a w h=>Conc.noV (Conc.put1 (x:=0) h (t:=14) (v':=slK (kInt .u32) []) rfl rfl AVle.nil (.refl _)))
    refine .lp (fun n (x:(List Int) × Int × (List Int))=>r03_DivMod_l2 x698 x697 x694 x696 n x.1 x.2.1 x.2.2) (fun x=>([eL 7 x697.1,eI 10 (IntKind.i64.wrap ((IntKind.i64.wrap (32*(x694.length:Int)))-x696)),eL 11 x698.1,(13,some (.row 0 (kInt .u32).sz 0 ((x.2.2).length))),eL 14 x.1,eI 15 x.2.1],[(0,(rwK (kInt .u32) 79 x.2.2))])) ([],(IntKind.i64.wrap ((x698.1.length:Int)-1)),(List.replicate x698.1.length (kInt .u32).z)) [(0,0)] rfl ?_
    rintro n2 ⟨y1272,y1273,y1274⟩
    try dsimp only
    rw [r03_DivMod_l2]
    refine .g 7 rfl<|?_
    refine .cd rfl (fun _ _=>?_) fun _ _=>?_
    ·refine .g 3 rfl<|?_
     refine .cut (fun x:(List Int) × (List Int)=>(r03_DivMod_j3 (fun z0 z1 z2=>r03_DivMod_l2 x698 x697 x694 x696 n2 z0 z1 z2) y1273 x.1 x.2,[eL 7 x697.1,eI 10 (IntKind.i64.wrap ((IntKind.i64.wrap (32*(x694.length:Int)))-x696)),eL 11 x698.1,(13,some (.row 0 (kInt .u32).sz 0 ((x.2).length))),eL 14 x.1,eI 15 y1273],[(0,(rwK (kInt .u32) 79 x.2))])) ?_ ?_
     ·rintro ⟨y1330,y1331⟩
      dsimp only [r03_DivMod_j3]
      refine .g 6 rfl<|.ag (y1330,(IntKind.i64.wrap (y1273-1)),y1331) [(0,0)] rfl
     ·intro h643
      refine .g 5 rfl<|.ix rfl rfl<|.g 1 rfl<|.sv (.row 1 (kInt .u32).sz 0 (([(x698.1.getD y1273.toNat (kInt .u32).z)]).length)) [(1,(rwK (kInt .u32) 79 [(x698.1.getD y1273.toNat (kInt .u32).z)]))] rfl (snd_buildSliceK_row (kInt .u32) _ _ 1 1 _ _ [(0,(.int .u32 (x698.1.getD y1273.toNat (kInt .u32).z)))] [(x698.1.getD y1273.toNat (kInt .u32).z)] rfl underlying22 ze79 si79 rfl rfl rfl rfl (by decide) (by decide) (by decide) rfl rfl rfl) rfl<|.g 1 rfl<|.guard fun h645=>.sv (.row 2 (kInt .u32).sz 0 ((([(x698.1.getD y1273.toNat (kInt .u32).z)]++y1272)).length)) [(2,(rwK (kInt .u32) 79 ([(x698.1.getD y1273.toNat (kInt .u32).z)]++y1272))),(1,.dead)] rfl (snd_appendK0 (kInt .u32) _ _ _ _ _ 1 2 [(x698.1.getD y1273.toNat (kInt .u32).z)] y1272 rfl underlying22 ze79 sb79 rfl rfl rfl rfl rfl rfl h645) rfl<|?_
      refine .weak ?_ (fun a w h=>Conc.freezeK (kInt .u32) h 72 2 0 ((([(x698.1.getD y1273.toNat (kInt .u32).z)]++y1272)).length) 79 ([(x698.1.getD y1273.toNat (kInt .u32).z)]++y1272) rfl rfl (by omega))
      refine .weak ?_ (fun a w h=>take_all h)
      refine .p0 rfl rfl fun x1332 _=>.g 7 rfl<|.p0 rfl rfl fun x1333 _=>.g 8 rfl<|.p0 rfl rfl fun x1334 _=>.p0 rfl rfl fun x1335 _=>.p0 rfl rfl fun x1336 _=>.g 8 rfl<|?_
      refine .cut (fun x:Int × (List Int)=>(r03_DivMod_j4 y1273 y1274 (fun z0 z1 z2=>r03_DivMod_l2 x698 x697 x694 x696 n2 z0 z1 z2) x.1 x.2,[eL 7 x697.1,eI 10 (IntKind.i64.wrap ((IntKind.i64.wrap (32*(x694.length:Int)))-x696)),eL 11 x698.1,(13,some (.row 0 (kInt .u32).sz 0 ((y1274).length))),eI 15 y1273,eX 16 x.1,eL 17 x.2],[(0,(rwK (kInt .u32) 79 y1274))])) ?_ ?_
      ·rintro ⟨y1361,y1362⟩
       dsimp only [r03_DivMod_j4]
       refine .g 7 rfl<|.guard fun h675=>?_
       obtain ⟨h6751,h6752⟩:=h675
       refine .sv (.rptr 0 (kInt .u32).sz y1273.toNat 0) [] rfl (idx_r (snd_index_r _ _ _ _ _ 0 0 ((y1274).length) _ y1273 rfl underlying22 si79 rfl rfl rfl rfl h6751 (by omega)) (Nat.zero_add _)) rfl<|.sm [(0,(rwK (kInt .u32) 79 ((y1274).set y1273.toNat (IntKind.u32.wrap y1361))))] rfl (snd_storeK_sca (kInt .u32) _ _ _ 0 y1273.toNat _ _ (IntKind.u32.wrap y1361) _ rfl rfl rfl sc79 rfl rfl rfl rfl rfl rfl (by first | omega | (simp only [List.length_set]; omega))) rfl<|?_
       refine .weak ?_ (fun a w h=>Conc.relen h 13 ((((y1274).set y1273.toNat (IntKind.u32.wrap y1361))).length) rfl List.length_set.symm)
       refine .g 7 rfl<|.jw (h643 (y1362,((y1274).set y1273.toNat (IntKind.u32.wrap y1361)))) [(0,0)] rfl
      ·intro h676
       refine .g 1 rfl<|?_
       refine .lp (fun n (x:Int × (List Int) × Bool)=>r03_DivMod_l5 x697 x1332 y1273 y1274 (fun z0 z1 z2=>r03_DivMod_l2 x698 x697 x694 x696 n2 z0 z1 z2) n x.1 x.2.1 x.2.2) (fun x=>([eL 7 x697.1,eI 10 (IntKind.i64.wrap ((IntKind.i64.wrap (32*(x694.length:Int)))-x696)),eL 11 x698.1,(13,some (.row 0 (kInt .u32).sz 0 ((y1274).length))),eL 14 x1332,eI 15 y1273,eX 16 x.1,eL 17 x.2.1,eB 18 x.2.2],[(0,(rwK (kInt .u32) 79 y1274))])) (x1333,x1336.1,x1336.2) [(0,0)] rfl ?_
       rintro n5 ⟨y1378,y1379,y1380⟩
       try dsimp only
       rw [r03_DivMod_l5]
       refine .g 7 rfl<|?_
       refine .cd rfl (fun _ _=>?_) fun _ _=>?_
       ·refine .g 14 rfl<|.p0 rfl rfl fun x1384 _=>.p0 rfl rfl fun x1385 _=>.p0 rfl rfl fun x1386 _=>.g 7 rfl<|.ag ((IntKind.u64.wrap (y1378-1)),x1386.1,x1386.2) [(0,0)] rfl
       ·refine .g 4 rfl<|.jw (h676 (y1378,y1379)) [(0,0)] rfl
    ·refine .g 4 rfl<|.jw (h356 (y1272,y1274)) [(0,0)] rfl
instance r05_Div_i (a0:AD) (a1:AD) (a2:Int) (a3:Bool):PC (r05_Div a0 a1 a2 a3) Tryz.prog 156 [(.agg (kD.enc a0)),(.agg (kD.enc a1)),(.int .i64 a2),(.bool a3)] (fun r=>(.tup [(.agg (kD.enc (⟨((r.1).M),(r.1).E⟩:AD))),(.int .i64 r.2)])):=pc func156 (by kernel_rfl) rfl fun E=>by
 unfold r05_Div
 refine .g 11 rfl<|.p0 rfl rfl fun x12 _=>.g 6 rfl<|.p0 rfl rfl fun x13 _=>.g 5 rfl<|?_
 refine .cut (fun x:Bool=>(r05_Div_j1 a1 a0 a2 a3 x,[eI 2 a2,eB 3 a3,eP 4 0,eP 5 1,eP 8 2,eB 32 x],[(0,(.live 26 [(.bool a0.M.Neg),(slK (kInt .u32) a0.M.Mag),(.int .i64 a0.E)])),(1,(.live 26 [(.bool a1.M.Neg),(slK (kInt .u32) a1.M.Mag),(.int .i64 a1.E)])),(2,(.live 26 [(.bool false),(slK (kInt .u32) []),(.int .i64 0)]))])) ?_ ?_
 ·rintro y15
  dsimp only [r05_Div_j1]
  refine .g 1 rfl<|?_
  refine .cd rfl (fun _ _=>?_) fun _ _=>?_
  ·refine .g 9 rfl<|.fi rfl rfl
  ·refine .g 8 rfl<|.ln rfl rfl<|.g 3 rfl<|?_
   refine .cd rfl (fun _ _=>?_) fun _ _=>?_
   ·refine .g 9 rfl<|.fi rfl rfl
   ·refine .g 8 rfl<|.ln rfl rfl<|.g 3 rfl<|?_
    refine .cd rfl (fun _ _=>?_) fun _ _=>?_
    ·refine .g 9 rfl<|.fi rfl rfl
    ·refine .g 9 rfl<|.p0 rfl rfl fun x16 _=>.g 4 rfl<|.p0 rfl rfl fun x17 _=>.g 3 rfl<|.dn (by kernel_rfl)<|.g 7 rfl<|.p0 rfl rfl fun x18 _=>.g 9 rfl<|.p0 rfl rfl fun x19 _=>.g 33 rfl<|.ln rfl rfl<|.g 5 rfl<|.p0 rfl rfl fun x20 _=>?_
     refine .p0 rfl rfl fun x21 _=>.g 7 rfl<|.fi rfl rfl
 ·intro h18
  refine .g 4 rfl<|?_
  refine .gd 24 rfl (fun _=>?_) fun _=>?_
  ·refine .g 9 rfl<|.jw (h18 true) [(0,0),(1,1),(2,2)] rfl
  ·refine .g 4 rfl<|?_
   refine .gd 28 rfl (fun _=>?_) fun _=>?_
   ·refine .g 5 rfl<|.jw (h18 true) [(0,0),(1,1),(2,2)] rfl
   ·refine .g 1 rfl<|.p0 rfl rfl fun x22 _=>.g 3 rfl<|.jw (h18 (!x22)) [(0,0),(1,1),(2,2)] rfl
instance r06_least_i (a0:List AD):PC (r06_least a0) Tryz.prog 144 [(slK kD a0)] (fun r=>(.agg (kD.enc (⟨((r).M),(r).E⟩:AD)))):=pc func144 (by kernel_rfl) rfl fun E=>by
 unfold r06_least
 refine .g 8 rfl<|.ix rfl rfl<|.g 11 rfl<|?_
 refine .cut (fun x:Bool × (List Int) × Int=>(r06_least_j1 x.1 x.2.1 x.2.2,[eP 2 0,eP 3 1],[(0,(.live 26 [(.bool false),(slK (kInt .u32) []),(.int .i64 0)])),(1,(.live 26 [(.bool x.1),(slK (kInt .u32) x.2.1),(.int .i64 x.2.2)]))])) ?_ ?_
 ·rintro ⟨y100,y101,y102⟩
  dsimp only [r06_least_j1]
  refine .g 8 rfl<|.fi rfl rfl
 ·intro h56
  refine .g 1 rfl<|?_
  refine .lp (fun n (x:Int × Bool × (List Int) × Int)=>r06_least_l2 a0 n x.1 x.2.1 x.2.2.1 x.2.2.2) (fun x=>([eK kD 0 a0,eP 2 0,eP 3 1,eI 4 x.1],[(0,(.live 26 [(.bool false),(slK (kInt .u32) []),(.int .i64 0)])),(1,(.live 26 [(.bool x.2.1),(slK (kInt .u32) x.2.2.1),(.int .i64 x.2.2.2)]))])) (1,((a0.getD 0 zAD).M).Neg,((a0.getD 0 zAD).M).Mag,(a0.getD 0 zAD).E) [(0,0),(1,1)] rfl ?_
  rintro n2 ⟨y123,y124,y125,y126⟩
  try dsimp only
  rw [r06_least_l2]
  refine .g 5 rfl<|.ln rfl rfl<|.g 3 rfl<|?_
  refine .cd rfl (fun _ _=>?_) fun _ _=>?_
  ·refine .g 8 rfl<|.ix rfl rfl<|.g 2 rfl<|.p0 rfl rfl fun x131 _=>.g 1 rfl<|.dn (by kernel_rfl)<|.g 1 rfl<|?_
   refine .cut (fun x:Bool × (List Int) × Int=>(r06_least_j3 (fun z0 z1 z2 z3=>r06_least_l2 a0 n2 z0 z1 z2 z3) y123 x.1 x.2.1 x.2.2,[eK kD 0 a0,eP 2 0,eP 3 1,eI 4 y123],[(0,(.live 26 [(.bool false),(slK (kInt .u32) []),(.int .i64 0)])),(1,(.live 26 [(.bool x.1),(slK (kInt .u32) x.2.1),(.int .i64 x.2.2)]))])) ?_ ?_
   ·rintro ⟨y132,y133,y134⟩
    dsimp only [r06_least_j3]
    refine .g 7 rfl<|.ag ((IntKind.i64.wrap (y123+1)),y132,y133,y134) [(0,0),(1,1)] rfl
   ·intro h108
    refine .cd rfl (fun _ _=>?_) fun _ _=>?_
    ·refine .g 3 rfl<|.ix rfl rfl<|.g 3 rfl<|.jw (h108 (((a0.getD y123.toNat zAD).M).Neg,((a0.getD y123.toNat zAD).M).Mag,(a0.getD y123.toNat zAD).E)) [(0,0),(1,1)] rfl
    ·refine .g 1 rfl<|.jw (h108 (y124,y125,y126)) [(0,0),(1,1)] rfl
  ·refine .g 4 rfl<|.jw (h56 (y124,y125,y126)) [(0,0),(1,1)] rfl
instance r06_greatest_i (a0:List AD):PC (r06_greatest a0) Tryz.prog 145 [(slK kD a0)] (fun r=>(.agg (kD.enc (⟨((r).M),(r).E⟩:AD)))):=pc func145 (by kernel_rfl) rfl fun E=>by
 unfold r06_greatest
 refine .g 8 rfl<|.ix rfl rfl<|.g 11 rfl<|?_
 refine .cut (fun x:Bool × (List Int) × Int=>(r06_greatest_j1 x.1 x.2.1 x.2.2,[eP 2 0,eP 3 1],[(0,(.live 26 [(.bool false),(slK (kInt .u32) []),(.int .i64 0)])),(1,(.live 26 [(.bool x.1),(slK (kInt .u32) x.2.1),(.int .i64 x.2.2)]))])) ?_ ?_
 ·rintro ⟨y100,y101,y102⟩
  dsimp only [r06_greatest_j1]
  refine .g 8 rfl<|.fi rfl rfl
 ·intro h56
  refine .g 1 rfl<|?_
  refine .lp (fun n (x:Int × Bool × (List Int) × Int)=>r06_greatest_l2 a0 n x.1 x.2.1 x.2.2.1 x.2.2.2) (fun x=>([eK kD 0 a0,eP 2 0,eP 3 1,eI 4 x.1],[(0,(.live 26 [(.bool false),(slK (kInt .u32) []),(.int .i64 0)])),(1,(.live 26 [(.bool x.2.1),(slK (kInt .u32) x.2.2.1),(.int .i64 x.2.2.2)]))])) (1,((a0.getD 0 zAD).M).Neg,((a0.getD 0 zAD).M).Mag,(a0.getD 0 zAD).E) [(0,0),(1,1)] rfl ?_
  rintro n2 ⟨y123,y124,y125,y126⟩
  try dsimp only
  rw [r06_greatest_l2]
  refine .g 5 rfl<|.ln rfl rfl<|.g 3 rfl<|?_
  refine .cd rfl (fun _ _=>?_) fun _ _=>?_
  ·refine .g 8 rfl<|.ix rfl rfl<|.g 2 rfl<|.p0 rfl rfl fun x131 _=>.g 1 rfl<|.dn (by kernel_rfl)<|.g 1 rfl<|?_
   refine .cut (fun x:Bool × (List Int) × Int=>(r06_greatest_j3 (fun z0 z1 z2 z3=>r06_greatest_l2 a0 n2 z0 z1 z2 z3) y123 x.1 x.2.1 x.2.2,[eK kD 0 a0,eP 2 0,eP 3 1,eI 4 y123],[(0,(.live 26 [(.bool false),(slK (kInt .u32) []),(.int .i64 0)])),(1,(.live 26 [(.bool x.1),(slK (kInt .u32) x.2.1),(.int .i64 x.2.2)]))])) ?_ ?_
   ·rintro ⟨y132,y133,y134⟩
    dsimp only [r06_greatest_j3]
    refine .g 7 rfl<|.ag ((IntKind.i64.wrap (y123+1)),y132,y133,y134) [(0,0),(1,1)] rfl
   ·intro h108
    refine .cd rfl (fun _ _=>?_) fun _ _=>?_
    ·refine .g 3 rfl<|.ix rfl rfl<|.g 3 rfl<|.jw (h108 (((a0.getD y123.toNat zAD).M).Neg,((a0.getD y123.toNat zAD).M).Mag,(a0.getD y123.toNat zAD).E)) [(0,0),(1,1)] rfl
    ·refine .g 1 rfl<|.jw (h108 (y124,y125,y126)) [(0,0),(1,1)] rfl
  ·refine .g 4 rfl<|.jw (h56 (y124,y125,y126)) [(0,0),(1,1)] rfl
instance r06_CDiv_i (a0:AI) (a1:AI) (a2:Int) (a3:Int):CC (r06_CDiv a0 a1 a2 a3) Tryz.prog 81 [(.ptr 0 0),(.agg (kI.enc a0)),(.agg (kI.enc a1))] [(.live 83 [(.int .i64 a2),(.int .i64 a3)])] (fun r=>(.agg (kI.enc (⟨⟨(((r.1).Lo).M),((r.1).Lo).E⟩,⟨(((r.1).Hi).M),((r.1).Hi).E⟩⟩:AI)))) (fun r=>[(.live 83 [(.int .i64 a2),(.int .i64 r.2)])]):=cc func81 (by kernel_rfl) rfl fun E=>by
 unfold r06_CDiv
 refine .g 13 rfl<|.st rfl (bs kI [a0,a1] rfl rfl) rfl<|.bind fun x122 h1=>.st rfl (cl (CC.h h1) [0] [] [true] rfl (.p rfl<|.l<|.nil) (.p rfl (.i<|.i<|.nil) .nil) fnil (.cons (.v (.i<|.i<|.nil)) .nil) (.bool _) (.turned .nil) rfl) rfl<|.g 3 rfl<|?_
 refine .cd rfl (fun _ _=>?_) fun _ _=>?_
 ·refine .g 8 rfl<|.fi rfl rfl
 ·refine .g 7 rfl<|.p0 rfl rfl fun x123 _=>.g 2 rfl<|?_
  refine .cd rfl (fun _ _=>?_) fun _ _=>?_
  ·refine .g 3 rfl<|.bind fun x124 h7=>.st rfl (cl (CC.h h7) [0] [] [true] rfl (.p rfl<|.i<|.nil) (.p rfl (.i<|.i<|.nil) .nil) fnil (.cons (.v (.i<|.i<|.nil)) .nil) (.bool _) (.turned .nil) rfl) rfl<|.g 10 rfl<|.fi rfl rfl
  ·refine .g 12 rfl<|.st rfl (bs kD [a0.Lo,a0.Lo,a0.Hi,a0.Hi] rfl rfl) rfl<|.g 13 rfl<|.st rfl (bs kD [a1.Lo,a1.Hi,a1.Lo,a1.Hi] rfl rfl) rfl<|.g 19 rfl<|?_
   refine .cut (fun x:Int × (List AD) × (List AD)=>(r06_CDiv_j1 a2 x.1 x.2.1 x.2.2,[eP 0 0,eP 6 3,(9,some (grA kD 4 x.2.1)),(10,some (grA kD 5 x.2.2))],[(0,(.live 83 [(.int .i64 a2),(.int .i64 x.1)])),(3,(.live 30 [(.bool false),(slK (kInt .u32) []),(.int .i64 0),(.bool false),(slK (kInt .u32) []),(.int .i64 0)])),(4,(grV kD 26 x.2.1)),(5,(grV kD 26 x.2.2))])) ?_ ?_
   ·rintro ⟨y181,y182,y183⟩
    dsimp only [r06_CDiv_j1]
    refine .g 2 rfl<|?_
    refine .weak ?_ (fun a w h=>Conc.gr_still kD h 9 4 26 y182 rfl rfl)
    refine .weak ?_ (fun a w h=>Conc.gr_still kD h 10 5 26 y183 rfl rfl)
    refine .g 3 rfl<|.p0 rfl rfl fun x184 _=>.g 1 rfl<|.p0 rfl rfl fun x185 _=>.bind fun x186 h110=>.st rfl (cl (CC.h h110) [0] [] [false] rfl (.p rfl<|.a kD<|.a kD<|.nil) (.p rfl (.i<|.i<|.nil) .nil) fnil (.cons (.v (.i<|.i<|.nil)) .nil) (ren_agg (K:=kI) _) (.kept rfl .nil) rfl) rfl<|.g 4 rfl<|.fi rfl rfl
   ·intro h111
    refine .g 1 rfl<|?_
    refine .weak ?_ (fun a w h=>Conc.gr_nil kD h 9 4 26 rfl)
    refine .weak ?_ (fun a w h=>Conc.gr_nil kD h 10 5 26 rfl)
    refine .lo (fun n (x:Int × Int × (List AD) × (List AD))=>r06_CDiv_l2 a0 a1 a2 n x.1 x.2.1 x.2.2.1 x.2.2.2) (fun x=>([eP 0 0,eP 6 3,eK kD 7 [a0.Lo,a0.Lo,a0.Hi,a0.Hi],eK kD 8 [a1.Lo,a1.Hi,a1.Lo,a1.Hi],(9,some (grA kD 4 x.2.2.1)),(10,some (grA kD 5 x.2.2.2)),eI 11 x.1],[(0,(.live 83 [(.int .i64 a2),(.int .i64 x.2.1)])),(3,(.live 30 [(.bool false),(slK (kInt .u32) []),(.int .i64 0),(.bool false),(slK (kInt .u32) []),(.int .i64 0)])),(4,(grV kD 26 x.2.2.1)),(5,(grV kD 26 x.2.2.2))])) (0,x122.2,[],[]) rfl (fun hE=>jn (m:=1) [(0,0),(3,3),(4,4),(5,5)] hE (.p rfl rfl<|.p rfl rfl<|.l rfl<|.l rfl<|.g rfl (ren_gr (K:=kD) (by rfl) [])<|.g rfl (ren_gr (K:=kD) (by rfl) [])<|.i rfl<|.nil) (.v rfl (.i<|.i<|.nil)<|.v rfl (.b<|.l<|.i<|.b<|.l<|.i<|.nil)<|.cons (.refl _) (renV_gr (K:=kD) 26 [])<|.cons (.refl _) (renV_gr (K:=kD) 26 [])<|.nil) rfl) ?_
    rintro n2 ⟨y223,y224,y225,y226⟩
    try dsimp only
    rw [r06_CDiv_l2]
    refine .g 7 rfl<|?_
    refine .cd rfl (fun _ _=>?_) fun _ _=>?_
    ·refine .g 8 rfl<|.ix rfl rfl<|.g 3 rfl<|.ix rfl rfl<|.g 5 rfl<|.p0 rfl rfl fun x235 _=>.g 6 rfl<|.dn (by kernel_rfl)<|.g 5 rfl<|.ix rfl rfl<|.g 3 rfl<|.ix rfl rfl<|.g 5 rfl<|.p0 rfl rfl fun x236 _=>?_
     refine .g 6 rfl<|.dn (by kernel_rfl)<|.g 3 rfl<|?_
     refine .cut (fun x:Bool × Int=>(r06_CDiv_j3 x235 y225 x236 y226 (fun z0 z1 z2 z3=>r06_CDiv_l2 a0 a1 a2 n2 z0 z1 z2 z3) y223 x.1 x.2,[eP 0 0,eP 6 3,eK kD 7 [a0.Lo,a0.Lo,a0.Hi,a0.Hi],eK kD 8 [a1.Lo,a1.Hi,a1.Lo,a1.Hi],(9,some (grA kD 4 y225)),(10,some (grA kD 5 y226)),eI 11 y223,eP 12 1,eP 14 2,eB 92 x.1],[(0,(.live 83 [(.int .i64 a2),(.int .i64 x.2)])),(3,(.live 30 [(.bool false),(slK (kInt .u32) []),(.int .i64 0),(.bool false),(slK (kInt .u32) []),(.int .i64 0)])),(4,(grV kD 26 y225)),(5,(grV kD 26 y226)),(1,(.live 26 [(.bool (((x235.1).M).Neg)),(slK (kInt .u32) (((x235.1).M).Mag)),(.int .i64 ((x235.1).E))])),(2,(.live 26 [(.bool (((x236.1).M).Neg)),(slK (kInt .u32) (((x236.1).M).Mag)),(.int .i64 ((x236.1).E))]))])) ?_ ?_
     ·rintro ⟨y239,y240⟩
      dsimp only [r06_CDiv_j3]
      refine .g 1 rfl<|?_
      refine .cd rfl (fun _ _=>?_) fun _ _=>?_
      ·refine .g 13 rfl<|.fi rfl rfl
      ·refine .g 6 rfl<|.st rfl (bs kD [(⟨((x235.1).M),(x235.1).E⟩:AD)] rfl rfl) rfl<|.guard fun h207=>.sv (.row 6 kD.sz 0 (((y225++[(⟨((x235.1).M),(x235.1).E⟩:AD)])).length)) [(6,(rwK kD 26 (y225++[(⟨((x235.1).M),(x235.1).E⟩:AD)]))),(4,.dead)] rfl (snd_appendK_gr kD _ _ _ _ _ 4 6 y225 [(⟨((x235.1).M),(x235.1).E⟩:AD)] rfl underlying101 ze26 sb26 rfl rfl rfl rfl rfl rfl rfl h207) rfl<|.g 6 rfl<|.st rfl (bs kD [(⟨((x236.1).M),(x236.1).E⟩:AD)] rfl rfl) rfl<|.guard fun h208=>.sv (.row 7 kD.sz 0 (((y226++[(⟨((x236.1).M),(x236.1).E⟩:AD)])).length)) [(7,(rwK kD 26 (y226++[(⟨((x236.1).M),(x236.1).E⟩:AD)]))),(5,.dead)] rfl (snd_appendK_gr kD _ _ _ _ _ 5 7 y226 [(⟨((x236.1).M),(x236.1).E⟩:AD)] rfl underlying101 ze26 sb26 rfl rfl rfl rfl rfl rfl rfl h208) rfl<|.g 9 rfl<|?_
       refine .weak ?_ (fun a w h=>Conc.gr_row kD h 9 6 26 (y225++[(⟨((x235.1).M),(x235.1).E⟩:AD)]) rfl rfl (by first | omega | (simp only [List.length_append,List.length_cons,List.length_set]; omega) | simp))
       refine .weak ?_ (fun a w h=>Conc.gr_row kD h 10 7 26 (y226++[(⟨((x236.1).M),(x236.1).E⟩:AD)]) rfl rfl (by first | omega | (simp only [List.length_append,List.length_cons,List.length_set]; omega) | simp))
       exact .ao ((IntKind.i64.wrap (y223+1)),y240,(y225++[(⟨((x235.1).M),(x235.1).E⟩:AD)]),(y226++[(⟨((x236.1).M),(x236.1).E⟩:AD)])) rfl fun hE=>jn (m:=1) [(0,0),(3,3),(6,4),(7,5)] hE (.p rfl rfl<|.p rfl rfl<|.l rfl<|.l rfl<|.g rfl (ren_gr (K:=kD) (by rfl) (y225++[(⟨((x235.1).M),(x235.1).E⟩:AD)]))<|.g rfl (ren_gr (K:=kD) (by rfl) (y226++[(⟨((x236.1).M),(x236.1).E⟩:AD)]))<|.i rfl<|.nil) (.v rfl (.i<|.i<|.nil)<|.v rfl (.b<|.l<|.i<|.b<|.l<|.i<|.nil)<|.cons (.refl _) (renV_gr (K:=kD) 26 (y225++[(⟨((x235.1).M),(x235.1).E⟩:AD)]))<|.cons (.refl _) (renV_gr (K:=kD) 26 (y226++[(⟨((x236.1).M),(x236.1).E⟩:AD)]))<|.nil) rfl
     ·intro h209
      refine .g 3 rfl<|.bind fun x241 h210=>.st rfl (cl (CC.h h210) [0] [] [true] rfl (.p rfl<|.i<|.nil) (.p rfl (.i<|.i<|.nil) .nil) fnil (.cons (.v (.i<|.i<|.nil)) .nil) (.bool _) (.turned .nil) rfl) rfl<|.g 2 rfl<|?_
      refine .gd 87 rfl (fun _=>?_) fun _=>?_
      ·refine .g 6 rfl<|.jo (h209 (true,x241.2)) rfl fun hE=>jn (m:=1) [(0,0),(3,3),(4,4),(5,5),(1,1),(2,2)] hE (.p rfl rfl<|.p rfl rfl<|.l rfl<|.l rfl<|.g rfl (ren_gr (K:=kD) (by rfl) y225)<|.g rfl (ren_gr (K:=kD) (by rfl) y226)<|.i rfl<|.p rfl rfl<|.p rfl rfl<|.b rfl<|.nil) (.v rfl (.i<|.i<|.nil)<|.v rfl (.b<|.l<|.i<|.b<|.l<|.i<|.nil)<|.cons (.refl _) (renV_gr (K:=kD) 26 y225)<|.cons (.refl _) (renV_gr (K:=kD) 26 y226)<|.v rfl (.b<|.l<|.i<|.nil)<|.v rfl (.b<|.l<|.i<|.nil)<|.nil) rfl
      ·refine .g 2 rfl<|.bind fun x242 h212=>.st rfl (cl (CC.h h212) [0] [] [true] rfl (.p rfl<|.i<|.nil) (.p rfl (.i<|.i<|.nil) .nil) fnil (.cons (.v (.i<|.i<|.nil)) .nil) (.bool _) (.turned .nil) rfl) rfl<|.g 3 rfl<|.jo (h209 ((!x242.1),x242.2)) rfl fun hE=>jn (m:=1) [(0,0),(3,3),(4,4),(5,5),(1,1),(2,2)] hE (.p rfl rfl<|.p rfl rfl<|.l rfl<|.l rfl<|.g rfl (ren_gr (K:=kD) (by rfl) y225)<|.g rfl (ren_gr (K:=kD) (by rfl) y226)<|.i rfl<|.p rfl rfl<|.p rfl rfl<|.b rfl<|.nil) (.v rfl (.i<|.i<|.nil)<|.v rfl (.b<|.l<|.i<|.b<|.l<|.i<|.nil)<|.cons (.refl _) (renV_gr (K:=kD) 26 y225)<|.cons (.refl _) (renV_gr (K:=kD) 26 y226)<|.v rfl (.b<|.l<|.i<|.nil)<|.v rfl (.b<|.l<|.i<|.nil)<|.nil) rfl
    ·refine .g 4 rfl<|.jo (h111 (y224,y225,y226)) rfl fun hE=>jn (m:=1) [(0,0),(3,3),(4,4),(5,5)] hE (.p rfl rfl<|.p rfl rfl<|.g rfl (ren_gr (K:=kD) (by rfl) y225)<|.g rfl (ren_gr (K:=kD) (by rfl) y226)<|.nil) (.v rfl (.i<|.i<|.nil)<|.v rfl (.b<|.l<|.i<|.b<|.l<|.i<|.nil)<|.cons (.refl _) (renV_gr (K:=kD) 26 y225)<|.cons (.refl _) (renV_gr (K:=kD) 26 y226)<|.nil) rfl
instance r05_Make_i (a0:ApiInt) (a1:Int):PC (r05_Make a0 a1) Tryz.prog 87 [(.agg (kN.enc a0)),(.int .i64 a1)] (fun r=>(.tup [(.agg (kD.enc (⟨((r.1).M),(r.1).E⟩:AD))),(.bool r.2)])):=pc func87 (by kernel_rfl) rfl fun E=>by
 unfold r05_Make
 refine .g 9 rfl<|?_
 refine .cut (fun x:Bool=>(r05_Make_j1 a0 a1 x,[eI 1 a1,eP 2 0,eP 4 1,eB 13 x],[(0,(.live 24 [(.bool a0.Neg),(slK (kInt .u32) a0.Mag)])),(1,(.live 26 [(.bool false),(slK (kInt .u32) []),(.int .i64 0)]))])) ?_ ?_
 ·rintro y4
  dsimp only [r05_Make_j1]
  refine .g 1 rfl<|?_
  refine .cd rfl (fun _ _=>?_) fun _ _=>?_
  ·refine .g 9 rfl<|.fi rfl rfl
  ·refine .g 6 rfl<|.p0 rfl rfl fun x5 _=>.g 7 rfl<|.p0 rfl rfl fun x6 _=>.g 10 rfl<|?_
   refine .cd rfl (fun _ _=>?_) fun _ _=>?_
   ·refine .g 9 rfl<|.fi rfl rfl
   ·refine .g 10 rfl<|.fi rfl rfl
 ·intro h8
  refine .g 4 rfl<|?_
  refine .gd 10 rfl (fun _=>?_) fun _=>?_
  ·refine .g 4 rfl<|.jw (h8 true) [(0,0),(1,1)] rfl
  ·refine .g 4 rfl<|.jw (h8 (decide (a1>100000))) [(0,0),(1,1)] rfl
instance r05_Half_i (a0:Int):PC (r05_Half a0) Tryz.prog 117 [(.int .i64 a0)] (fun r=>(.agg (kD.enc (⟨((r).M),(r).E⟩:AD)))):=pc func117 (by kernel_rfl) rfl fun E=>by
 unfold r05_Half
 refine .g 7 rfl<|.p0 rfl rfl fun x3 _=>.g 1 rfl<|.p0 rfl rfl fun x4 _=>.g 15 rfl<|.fi rfl rfl
instance r06_In_i (a0:AI) (a1:AI):PC (r06_In a0 a1) Tryz.prog 195 [(.agg (kI.enc a0)),(.agg (kI.enc a1))] (fun r=>(.bool r)):=pc func195 (by kernel_rfl) rfl fun E=>by
 unfold r06_In
 refine .g 10 rfl<|.p0 rfl rfl fun x7 _=>.g 4 rfl<|?_
 refine .cut (fun x:Bool=>(r06_In_j1 x,[eB 4 x],[])) ?_ ?_
 ·rintro y10
  dsimp only [r06_In_j1]
  refine .g 2 rfl<|.fi rfl rfl
 ·intro h6
  refine .g 3 rfl<|?_
  refine .gd 9 rfl (fun _=>?_) fun _=>?_
  ·refine .g 3 rfl<|.p0 rfl rfl fun x11 _=>.g 2 rfl<|?_
   refine .gd 15 rfl (fun _=>?_) fun _=>?_
   ·refine .g 3 rfl<|.p0 rfl rfl fun x12 _=>.g 3 rfl<|.jw (h6 x12) [] rfl
   ·refine .g 7 rfl<|.jw (h6 false) [] rfl
  ·refine .g 13 rfl<|.jw (h6 false) [] rfl
instance r07_fits_i (a0:AI) (a1:Int) (a2:Int) (a3:Int):CC (r07_fits a0 a1 a2 a3) Tryz.prog 136 [(.ptr 0 0),(.agg (kI.enc a0)),(.int .i64 a1)] [(.live 83 [(.int .i64 a2),(.int .i64 a3)])] (fun r=>(.bool r.1)) (fun r=>[(.live 83 [(.int .i64 a2),(.int .i64 r.2)])]):=cc func136 (by kernel_rfl) rfl fun E=>by
 unfold r07_fits
 refine .g 16 rfl<|?_
 refine .cd rfl (fun _ _=>?_) fun _ _=>?_
 ·refine .g 7 rfl<|.fi rfl rfl
 ·refine .g 5 rfl<|.p0 rfl rfl fun x5 _=>.g 10 rfl<|?_
  refine .cd rfl (fun _ _=>?_) fun _ _=>?_
  ·refine .g 15 rfl<|.fi rfl rfl
  ·refine .g 5 rfl<|.p0 rfl rfl fun x6 _=>.g 9 rfl<|.p0 rfl rfl fun x7 _=>.g 2 rfl<|.p0 rfl rfl fun x8 _=>.g 1 rfl<|.dn (by kernel_rfl)<|.g 1 rfl<|?_
   refine .cd rfl (fun _ _=>?_) fun _ _=>?_
   ·refine .g 15 rfl<|.fi rfl rfl
   ·refine .g 8 rfl<|.fi rfl rfl
instance r04_Mul_i (a0:ApiInt) (a1:ApiInt):PC (r04_Mul a0 a1) Tryz.prog 198 [(.agg (kN.enc a0)),(.agg (kN.enc a1))] (fun r=>(.agg (kN.enc (r)))):=pc func198 (by kernel_rfl) rfl fun E=>by
 unfold r04_Mul
 refine .g 18 rfl<|.p0 rfl rfl fun x3 _=>.p0 rfl rfl fun x4 _=>.g 1 rfl<|.dn (by kernel_rfl)<|.g 2 rfl<|.fi rfl rfl
instance r05_Mul_i (a0:AD) (a1:AD):PC (r05_Mul a0 a1) Tryz.prog 142 [(.agg (kD.enc a0)),(.agg (kD.enc a1))] (fun r=>(.tup [(.agg (kD.enc (⟨((r.1).M),(r.1).E⟩:AD))),(.int .i64 r.2)])):=pc func142 (by kernel_rfl) rfl fun E=>by
 unfold r05_Mul
 refine .g 11 rfl<|.p0 rfl rfl fun x7 _=>.g 6 rfl<|.p0 rfl rfl fun x8 _=>.g 5 rfl<|?_
 refine .cut (fun x:Bool=>(r05_Mul_j1 a0 a1 x,[eP 2 0,eP 3 1,eP 4 2,eB 17 x],[(0,(.live 26 [(.bool a0.M.Neg),(slK (kInt .u32) a0.M.Mag),(.int .i64 a0.E)])),(1,(.live 26 [(.bool a1.M.Neg),(slK (kInt .u32) a1.M.Mag),(.int .i64 a1.E)])),(2,(.live 26 [(.bool false),(slK (kInt .u32) []),(.int .i64 0)]))])) ?_ ?_
 ·rintro y9
  dsimp only [r05_Mul_j1]
  refine .g 1 rfl<|?_
  refine .cd rfl (fun _ _=>?_) fun _ _=>?_
  ·refine .g 9 rfl<|.fi rfl rfl
  ·refine .g 8 rfl<|.p0 rfl rfl fun x10 _=>.g 5 rfl<|.p0 rfl rfl fun x11 _=>.p0 rfl rfl fun x12 _=>.g 4 rfl<|.dn (by kernel_rfl)<|.g 2 rfl<|.fi rfl rfl
 ·intro h9
  refine .g 4 rfl<|?_
  refine .gd 14 rfl (fun _=>?_) fun _=>?_
  ·refine .g 4 rfl<|.jw (h9 true) [(0,0),(1,1),(2,2)] rfl
  ·refine .g 4 rfl<|.jw (h9 (!x8)) [(0,0),(1,1),(2,2)] rfl
instance r06_CMul_i (a0:AI) (a1:AI) (a2:Int) (a3:Int):CC (r06_CMul a0 a1 a2 a3) Tryz.prog 73 [(.ptr 0 0),(.agg (kI.enc a0)),(.agg (kI.enc a1))] [(.live 83 [(.int .i64 a2),(.int .i64 a3)])] (fun r=>(.agg (kI.enc (⟨⟨(((r.1).Lo).M),((r.1).Lo).E⟩,⟨(((r.1).Hi).M),((r.1).Hi).E⟩⟩:AI)))) (fun r=>[(.live 83 [(.int .i64 a2),(.int .i64 r.2)])]):=cc func73 (by kernel_rfl) rfl fun E=>by
 unfold r06_CMul
 refine .g 13 rfl<|.st rfl (bs kI [a0,a1] rfl rfl) rfl<|.bind fun x45 h1=>.st rfl (cl (CC.h h1) [0] [] [true] rfl (.p rfl<|.l<|.nil) (.p rfl (.i<|.i<|.nil) .nil) fnil (.cons (.v (.i<|.i<|.nil)) .nil) (.bool _) (.turned .nil) rfl) rfl<|.g 3 rfl<|?_
 refine .cd rfl (fun _ _=>?_) fun _ _=>?_
 ·refine .g 8 rfl<|.fi rfl rfl
 ·refine .g 12 rfl<|.st rfl (bs kD [a0.Lo,a0.Lo,a0.Hi,a0.Hi] rfl rfl) rfl<|.g 13 rfl<|.st rfl (bs kD [a1.Lo,a1.Hi,a1.Lo,a1.Hi] rfl rfl) rfl<|.g 14 rfl<|?_
  refine .cut (fun x:Int × (List AD)=>(r06_CMul_j1 a2 x.1 x.2,[eP 0 0,eP 6 3,(9,some (grA kD 4 x.2))],[(0,(.live 83 [(.int .i64 a2),(.int .i64 x.1)])),(3,(.live 30 [(.bool false),(slK (kInt .u32) []),(.int .i64 0),(.bool false),(slK (kInt .u32) []),(.int .i64 0)])),(4,(grV kD 26 x.2))])) ?_ ?_
  ·rintro ⟨y64,y65⟩
   dsimp only [r06_CMul_j1]
   refine .g 2 rfl<|?_
   refine .weak ?_ (fun a w h=>Conc.gr_still kD h 9 4 26 y65 rfl rfl)
   refine .g 3 rfl<|.p0 rfl rfl fun x66 _=>.bind fun x67 h51=>.st rfl (cl (CC.h h51) [0] [] [true] rfl (.p rfl<|.a kD<|.b<|.nil) (.p rfl (.i<|.i<|.nil) .nil) fnil (.cons (.v (.i<|.i<|.nil)) .nil) (ren_agg (K:=kD) _) (.turned .nil) rfl) rfl<|.g 8 rfl<|.p0 rfl rfl fun x68 _=>.bind fun x69 h53=>.st rfl (cl (CC.h h53) [0] [] [true] rfl (.p rfl<|.a kD<|.b<|.nil) (.p rfl (.i<|.i<|.nil) .nil) fnil (.cons (.v (.i<|.i<|.nil)) .nil) (ren_agg (K:=kD) _) (.turned .nil) rfl) rfl<|.g 9 rfl<|.bind fun x70 h54=>.st rfl (cl (CC.h h54) [0] [] [false] rfl (.p rfl<|.a kD<|.a kD<|.nil) (.p rfl (.i<|.i<|.nil) .nil) fnil (.cons (.v (.i<|.i<|.nil)) .nil) (ren_agg (K:=kI) _) (.kept rfl .nil) rfl) rfl<|.g 4 rfl<|.fi rfl rfl
  ·intro h55
   refine .g 1 rfl<|?_
   refine .weak ?_ (fun a w h=>Conc.gr_nil kD h 9 4 26 rfl)
   refine .lo (fun n (x:Int × Int × (List AD))=>r06_CMul_l2 a0 a1 a2 n x.1 x.2.1 x.2.2) (fun x=>([eP 0 0,eP 6 3,eK kD 7 [a0.Lo,a0.Lo,a0.Hi,a0.Hi],eK kD 8 [a1.Lo,a1.Hi,a1.Lo,a1.Hi],(9,some (grA kD 4 x.2.2)),eI 10 x.1],[(0,(.live 83 [(.int .i64 a2),(.int .i64 x.2.1)])),(3,(.live 30 [(.bool false),(slK (kInt .u32) []),(.int .i64 0),(.bool false),(slK (kInt .u32) []),(.int .i64 0)])),(4,(grV kD 26 x.2.2))])) (0,x45.2,[]) rfl (fun hE=>jn (m:=1) [(0,0),(3,3),(4,4)] hE (.p rfl rfl<|.p rfl rfl<|.l rfl<|.l rfl<|.g rfl (ren_gr (K:=kD) (by rfl) [])<|.i rfl<|.nil) (.v rfl (.i<|.i<|.nil)<|.v rfl (.b<|.l<|.i<|.b<|.l<|.i<|.nil)<|.cons (.refl _) (renV_gr (K:=kD) 26 [])<|.nil) rfl) ?_
   rintro n2 ⟨y82,y83,y84⟩
   try dsimp only
   rw [r06_CMul_l2]
   refine .g 7 rfl<|?_
   refine .cd rfl (fun _ _=>?_) fun _ _=>?_
   ·refine .g 8 rfl<|.ix rfl rfl<|.g 3 rfl<|.ix rfl rfl<|.g 1 rfl<|.p0 rfl rfl fun x87 _=>.g 6 rfl<|.dn (by kernel_rfl)<|.g 6 rfl<|.bind fun x88 h98=>.st rfl (cl (CC.h h98) [0] [] [true] rfl (.p rfl<|.i<|.nil) (.p rfl (.i<|.i<|.nil) .nil) fnil (.cons (.v (.i<|.i<|.nil)) .nil) (.bool _) (.turned .nil) rfl) rfl<|.g 3 rfl<|?_
    refine .cd rfl (fun _ _=>?_) fun _ _=>?_
    ·refine .g 13 rfl<|.fi rfl rfl
    ·refine .g 5 rfl<|.st rfl (bs kD [(⟨((x87.1).M),(x87.1).E⟩:AD)] rfl rfl) rfl<|.guard fun h101=>.sv (.row 2 kD.sz 0 (((y84++[(⟨((x87.1).M),(x87.1).E⟩:AD)])).length)) [(2,(rwK kD 26 (y84++[(⟨((x87.1).M),(x87.1).E⟩:AD)]))),(4,.dead)] rfl (snd_appendK_gr kD _ _ _ _ _ 4 2 y84 [(⟨((x87.1).M),(x87.1).E⟩:AD)] rfl underlying101 ze26 sb26 rfl rfl rfl rfl rfl rfl rfl h101) rfl<|.g 9 rfl<|?_
     refine .weak ?_ (fun a w h=>Conc.gr_row kD h 9 2 26 (y84++[(⟨((x87.1).M),(x87.1).E⟩:AD)]) rfl rfl (by first | omega | (simp only [List.length_append,List.length_cons,List.length_set]; omega) | simp))
     exact .ao ((IntKind.i64.wrap (y82+1)),x88.2,(y84++[(⟨((x87.1).M),(x87.1).E⟩:AD)])) rfl fun hE=>jn (m:=1) [(0,0),(3,3),(2,4)] hE (.p rfl rfl<|.p rfl rfl<|.l rfl<|.l rfl<|.g rfl (ren_gr (K:=kD) (by rfl) (y84++[(⟨((x87.1).M),(x87.1).E⟩:AD)]))<|.i rfl<|.nil) (.v rfl (.i<|.i<|.nil)<|.v rfl (.b<|.l<|.i<|.b<|.l<|.i<|.nil)<|.cons (.refl _) (renV_gr (K:=kD) 26 (y84++[(⟨((x87.1).M),(x87.1).E⟩:AD)]))<|.nil) rfl
   ·refine .g 4 rfl<|.jo (h55 (y83,y84)) rfl fun hE=>jn (m:=1) [(0,0),(3,3),(4,4)] hE (.p rfl rfl<|.p rfl rfl<|.g rfl (ren_gr (K:=kD) (by rfl) y84)<|.nil) (.v rfl (.i<|.i<|.nil)<|.v rfl (.b<|.l<|.i<|.b<|.l<|.i<|.nil)<|.cons (.refl _) (renV_gr (K:=kD) 26 y84)<|.nil) rfl
instance r07_Terms_i (a0:Int):PC (r07_Terms a0) Tryz.prog 137 [(.int .i64 a0)] (fun r=>(.int .i64 r)):=pc func137 (by kernel_rfl) rfl fun E=>by
 unfold r07_Terms
 refine .g 16 rfl<|.fi rfl rfl
instance r06_CWide_i (a0:AI) (a1:AD) (a2:Int) (a3:Int):CC (r06_CWide a0 a1 a2 a3) Tryz.prog 197 [(.ptr 0 0),(.agg (kI.enc a0)),(.agg (kD.enc a1))] [(.live 83 [(.int .i64 a2),(.int .i64 a3)])] (fun r=>(.agg (kI.enc (⟨⟨(((r.1).Lo).M),((r.1).Lo).E⟩,⟨(((r.1).Hi).M),((r.1).Hi).E⟩⟩:AI)))) (fun r=>[(.live 83 [(.int .i64 a2),(.int .i64 r.2)])]):=cc func197 (by kernel_rfl) rfl fun E=>by
 unfold r06_CWide
 refine .g 15 rfl<|.st rfl (bs kI [a0,(⟨⟨⟨false,[]⟩,0⟩,a1⟩:AI)] rfl rfl) rfl<|.bind fun x8 h1=>.st rfl (cl (CC.h h1) [0] [] [true] rfl (.p rfl<|.l<|.nil) (.p rfl (.i<|.i<|.nil) .nil) fnil (.cons (.v (.i<|.i<|.nil)) .nil) (.bool _) (.turned .nil) rfl) rfl<|.g 3 rfl<|?_
 refine .cd rfl (fun _ _=>?_) fun _ _=>?_
 ·refine .g 8 rfl<|.fi rfl rfl
 ·refine .g 9 rfl<|.p0 rfl rfl fun x9 _=>.bind fun x10 h5=>.st rfl (cl (CC.h h5) [0] [] [true] rfl (.p rfl<|.a kD<|.a kD<|.nil) (.p rfl (.i<|.i<|.nil) .nil) fnil (.cons (.v (.i<|.i<|.nil)) .nil) (ren_agg (K:=kD) _) (.turned .nil) rfl) rfl<|.bind fun x11 h6=>.st rfl (cl (CC.h h6) [0] [] [true] rfl (.p rfl<|.a kD<|.b<|.nil) (.p rfl (.i<|.i<|.nil) .nil) fnil (.cons (.v (.i<|.i<|.nil)) .nil) (ren_agg (K:=kD) _) (.turned .nil) rfl) rfl<|.g 2 rfl<|.dn (by kernel_rfl)<|.g 8 rfl<|.bind fun x12 h7=>.st rfl (cl (CC.h h7) [0] [] [true] rfl (.p rfl<|.a kD<|.a kD<|.nil) (.p rfl (.i<|.i<|.nil) .nil) fnil (.cons (.v (.i<|.i<|.nil)) .nil) (ren_agg (K:=kD) _) (.turned .nil) rfl) rfl<|.bind fun x13 h8=>.st rfl (cl (CC.h h8) [0] [] [true] rfl (.p rfl<|.a kD<|.b<|.nil) (.p rfl (.i<|.i<|.nil) .nil) fnil (.cons (.v (.i<|.i<|.nil)) .nil) (ren_agg (K:=kD) _) (.turned .nil) rfl) rfl<|.g 9 rfl<|?_
  refine .bind fun x14 h9=>.st rfl (cl (CC.h h9) [0] [] [false] rfl (.p rfl<|.a kD<|.a kD<|.nil) (.p rfl (.i<|.i<|.nil) .nil) fnil (.cons (.v (.i<|.i<|.nil)) .nil) (ren_agg (K:=kI) _) (.kept rfl .nil) rfl) rfl<|.g 4 rfl<|.fi rfl rfl
instance r07_ends_i (a0:AI) (a1:Int) (a2:Int):CC (r07_ends a0 a1 a2) Tryz.prog 138 [(.ptr 0 0),(.agg (kI.enc a0))] [(.live 83 [(.int .i64 a1),(.int .i64 a2)])] (fun r=>(.agg (kI.enc (⟨⟨(((r.1).Lo).M),((r.1).Lo).E⟩,⟨(((r.1).Hi).M),((r.1).Hi).E⟩⟩:AI)))) (fun r=>[(.live 83 [(.int .i64 a1),(.int .i64 r.2)])]):=cc func138 (by kernel_rfl) rfl fun E=>by
 unfold r07_ends
 refine .g 15 rfl<|.p0 rfl rfl fun x3 _=>.bind fun x4 h2=>.st rfl (cl (CC.h h2) [0] [] [true] rfl (.p rfl<|.a kI<|.a kD<|.nil) (.p rfl (.i<|.i<|.nil) .nil) fnil (.cons (.v (.i<|.i<|.nil)) .nil) (ren_agg (K:=kI) _) (.turned .nil) rfl) rfl<|.g 1 rfl<|.dn (by kernel_rfl)<|.g 2 rfl<|.fi rfl rfl
instance r07_Atanh_i (a0:AI) (a1:Int) (a2:Int):CC (r07_Atanh a0 a1 a2) Tryz.prog 85 [(.ptr 0 0),(.agg (kI.enc a0))] [(.live 83 [(.int .i64 a1),(.int .i64 a2)])] (fun r=>(.agg (kI.enc (⟨⟨(((r.1).Lo).M),((r.1).Lo).E⟩,⟨(((r.1).Hi).M),((r.1).Hi).E⟩⟩:AI)))) (fun r=>[(.live 83 [(.int .i64 a1),(.int .i64 r.2)])]):=cc func85 (by kernel_rfl) rfl fun E=>by
 unfold r07_Atanh
 refine .g 11 rfl<|.bind fun x121 h1=>.st rfl (cl (CC.h h1) [0] [] [true] rfl (.p rfl<|.a kI<|.i<|.nil) (.p rfl (.i<|.i<|.nil) .nil) fnil (.cons (.v (.i<|.i<|.nil)) .nil) (.bool _) (.turned .nil) rfl) rfl<|.g 3 rfl<|?_
 refine .cd rfl (fun _ _=>?_) fun _ _=>?_
 ·refine .g 8 rfl<|.fi rfl rfl
 ·refine .g 7 rfl<|.bind fun x122 h4=>.st rfl (cl (CC.h h4) [0] [] [true] rfl (.p rfl<|.a kI<|.a kI<|.nil) (.p rfl (.i<|.i<|.nil) .nil) fnil (.cons (.v (.i<|.i<|.nil)) .nil) (ren_agg (K:=kI) _) (.turned .nil) rfl) rfl<|.g 24 rfl<|?_
  refine .cut (fun x:Int × Bool × (List Int) × Int × Bool × (List Int) × Int=>(r07_Atanh_j1 a1 x.1 x.2.1 x.2.2.1 x.2.2.2.1 x.2.2.2.2.1 x.2.2.2.2.2.1 x.2.2.2.2.2.2,[eP 0 0,eP 4 2,eP 6 4],[(0,(.live 83 [(.int .i64 a1),(.int .i64 x.1)])),(2,(.live 30 [(.bool false),(slK (kInt .u32) []),(.int .i64 0),(.bool false),(slK (kInt .u32) []),(.int .i64 0)])),(4,(.live 30 [(.bool x.2.1),(slK (kInt .u32) x.2.2.1),(.int .i64 x.2.2.2.1),(.bool x.2.2.2.2.1),(slK (kInt .u32) x.2.2.2.2.2.1),(.int .i64 x.2.2.2.2.2.2)]))])) ?_ ?_
  ·rintro ⟨y178,y179,y180,y181,y182,y183,y184⟩
   dsimp only [r07_Atanh_j1]
   refine .g 5 rfl<|.bind fun x185 h38=>.st rfl (cl (CC.h h38) [0] [] [true] rfl (.p rfl<|.a kI<|.nil) (.p rfl (.i<|.i<|.nil) .nil) fnil (.cons (.v (.i<|.i<|.nil)) .nil) (ren_agg (K:=kI) _) (.turned .nil) rfl) rfl<|.g 4 rfl<|.fi rfl rfl
  ·intro h39
   refine .g 1 rfl<|?_
   refine .lp (fun n (x:Int × Int × Bool × (List Int) × Int × Bool × (List Int) × Int × Bool × (List Int) × Int × Bool × (List Int) × Int)=>r07_Atanh_l2 a1 x122 n x.1 x.2.1 x.2.2.1 x.2.2.2.1 x.2.2.2.2.1 x.2.2.2.2.2.1 x.2.2.2.2.2.2.1 x.2.2.2.2.2.2.2.1 x.2.2.2.2.2.2.2.2.1 x.2.2.2.2.2.2.2.2.2.1 x.2.2.2.2.2.2.2.2.2.2.1 x.2.2.2.2.2.2.2.2.2.2.2.1 x.2.2.2.2.2.2.2.2.2.2.2.2.1 x.2.2.2.2.2.2.2.2.2.2.2.2.2) (fun x=>([eP 0 0,eP 4 2,eP 5 3,eP 6 4,eP 7 5,eI 8 x.1],[(0,(.live 83 [(.int .i64 a1),(.int .i64 x.2.1)])),(2,(.live 30 [(.bool false),(slK (kInt .u32) []),(.int .i64 0),(.bool false),(slK (kInt .u32) []),(.int .i64 0)])),(3,(.live 30 [(.bool ((((x122.1).Lo).M).Neg)),(slK (kInt .u32) ((((x122.1).Lo).M).Mag)),(.int .i64 (((x122.1).Lo).E)),(.bool ((((x122.1).Hi).M).Neg)),(slK (kInt .u32) ((((x122.1).Hi).M).Mag)),(.int .i64 (((x122.1).Hi).E))])),(4,(.live 30 [(.bool x.2.2.1),(slK (kInt .u32) x.2.2.2.1),(.int .i64 x.2.2.2.2.1),(.bool x.2.2.2.2.2.1),(slK (kInt .u32) x.2.2.2.2.2.2.1),(.int .i64 x.2.2.2.2.2.2.2.1)])),(5,(.live 30 [(.bool x.2.2.2.2.2.2.2.2.1),(slK (kInt .u32) x.2.2.2.2.2.2.2.2.2.1),(.int .i64 x.2.2.2.2.2.2.2.2.2.2.1),(.bool x.2.2.2.2.2.2.2.2.2.2.2.1),(slK (kInt .u32) x.2.2.2.2.2.2.2.2.2.2.2.2.1),(.int .i64 x.2.2.2.2.2.2.2.2.2.2.2.2.2)]))])) (1,x122.2,a0.Lo.M.Neg,a0.Lo.M.Mag,a0.Lo.E,a0.Hi.M.Neg,a0.Hi.M.Mag,a0.Hi.E,a0.Lo.M.Neg,a0.Lo.M.Mag,a0.Lo.E,a0.Hi.M.Neg,a0.Hi.M.Mag,a0.Hi.E) [(0,0),(2,2),(3,3),(4,4),(5,5)] rfl ?_
   rintro n2 ⟨y218,y219,y220,y221,y222,y223,y224,y225,y226,y227,y228,y229,y230,y231⟩
   try dsimp only
   rw [r07_Atanh_l2]
   refine .g 8 rfl<|.p0 rfl rfl fun x232 _=>.g 3 rfl<|?_
   refine .cd rfl (fun _ _=>?_) fun _ _=>?_
   ·refine .g 9 rfl<|.bind fun x237 h69=>.st rfl (cl (CC.h h69) [0] [] [true] rfl (.p rfl<|.a kI<|.a kI<|.nil) (.p rfl (.i<|.i<|.nil) .nil) fnil (.cons (.v (.i<|.i<|.nil)) .nil) (ren_agg (K:=kI) _) (.turned .nil) rfl) rfl<|.g 12 rfl<|.bind fun x238 h70=>.st rfl (cl (CC.h h70) [0] [] [true] rfl (.p rfl<|.i<|.nil) (.p rfl (.i<|.i<|.nil) .nil) fnil (.cons (.v (.i<|.i<|.nil)) .nil) (ren_agg (K:=kI) _) (.turned .nil) rfl) rfl<|.bind fun x239 h71=>.st rfl (cl (CC.h h71) [0] [] [true] rfl (.p rfl<|.a kI<|.a kI<|.nil) (.p rfl (.i<|.i<|.nil) .nil) fnil (.cons (.v (.i<|.i<|.nil)) .nil) (ren_agg (K:=kI) _) (.turned .nil) rfl) rfl<|.bind fun x240 h72=>.st rfl (cl (CC.h h72) [0] [] [true] rfl (.p rfl<|.a kI<|.a kI<|.nil) (.p rfl (.i<|.i<|.nil) .nil) fnil (.cons (.v (.i<|.i<|.nil)) .nil) (ren_agg (K:=kI) _) (.turned .nil) rfl) rfl<|.g 1 rfl<|.dn (by kernel_rfl)<|.g 7 rfl<|.ag ((IntKind.i64.wrap (y218+1)),x240.2,(((x240.1).Lo).M).Neg,(((x240.1).Lo).M).Mag,((x240.1).Lo).E,(((x240.1).Hi).M).Neg,(((x240.1).Hi).M).Mag,((x240.1).Hi).E,(((x237.1).Lo).M).Neg,(((x237.1).Lo).M).Mag,((x237.1).Lo).E,(((x237.1).Hi).M).Neg,(((x237.1).Hi).M).Mag,((x237.1).Hi).E) [(0,0),(2,2),(3,3),(4,4),(5,5)] rfl
   ·refine .g 4 rfl<|.jw (h39 (y219,y220,y221,y222,y223,y224,y225)) [(0,0),(2,2),(4,4)] rfl
instance r08_Ln2_i (a0:Int) (a1:Int):CC (r08_Ln2 a0 a1) Tryz.prog 86 [(.ptr 0 0)] [(.live 83 [(.int .i64 a0),(.int .i64 a1)])] (fun r=>(.agg (kI.enc (⟨⟨(((r.1).Lo).M),((r.1).Lo).E⟩,⟨(((r.1).Hi).M),((r.1).Hi).E⟩⟩:AI)))) (fun r=>[(.live 83 [(.int .i64 a0),(.int .i64 r.2)])]):=cc func86 (by kernel_rfl) rfl fun E=>by
 unfold r08_Ln2
 refine .g 11 rfl<|.bind fun x6 h1=>.st rfl (cl (CC.h h1) [0] [] [true] rfl (.p rfl<|.i<|.nil) (.p rfl (.i<|.i<|.nil) .nil) fnil (.cons (.v (.i<|.i<|.nil)) .nil) (ren_agg (K:=kI) _) (.turned .nil) rfl) rfl<|.g 1 rfl<|.bind fun x7 h2=>.st rfl (cl (CC.h h2) [0] [] [true] rfl (.p rfl<|.i<|.nil) (.p rfl (.i<|.i<|.nil) .nil) fnil (.cons (.v (.i<|.i<|.nil)) .nil) (ren_agg (K:=kI) _) (.turned .nil) rfl) rfl<|.bind fun x8 h3=>.st rfl (cl (CC.h h3) [0] [] [true] rfl (.p rfl<|.a kI<|.a kI<|.nil) (.p rfl (.i<|.i<|.nil) .nil) fnil (.cons (.v (.i<|.i<|.nil)) .nil) (ren_agg (K:=kI) _) (.turned .nil) rfl) rfl<|.bind fun x9 h4=>.st rfl (cl (CC.h h4) [0] [] [true] rfl (.p rfl<|.a kI<|.nil) (.p rfl (.i<|.i<|.nil) .nil) fnil (.cons (.v (.i<|.i<|.nil)) .nil) (ren_agg (K:=kI) _) (.turned .nil) rfl) rfl<|.bind fun x10 h5=>.st rfl (cl (CC.h h5) [0] [] [true] rfl (.p rfl<|.a kI<|.i<|.nil) (.p rfl (.i<|.i<|.nil) .nil) fnil (.cons (.v (.i<|.i<|.nil)) .nil) (ren_agg (K:=kI) _) (.turned .nil) rfl) rfl<|.g 4 rfl<|.fi rfl rfl
instance r06_COut_i (a0:AI) (a1:Int) (a2:Int):CC (r06_COut a0 a1 a2) Tryz.prog 146 [(.ptr 0 0),(.agg (kI.enc a0))] [(.live 83 [(.int .i64 a1),(.int .i64 a2)])] (fun r=>(.agg (kI.enc (⟨⟨(((r.1).Lo).M),((r.1).Lo).E⟩,⟨(((r.1).Hi).M),((r.1).Hi).E⟩⟩:AI)))) (fun r=>[(.live 83 [(.int .i64 a1),(.int .i64 r.2)])]):=cc func146 (by kernel_rfl) rfl fun E=>by
 unfold r06_COut
 refine .g 11 rfl<|.st rfl (bs kI [a0] rfl rfl) rfl<|.bind fun x5 h1=>.st rfl (cl (CC.h h1) [0] [] [true] rfl (.p rfl<|.l<|.nil) (.p rfl (.i<|.i<|.nil) .nil) fnil (.cons (.v (.i<|.i<|.nil)) .nil) (.bool _) (.turned .nil) rfl) rfl<|.g 3 rfl<|?_
 refine .cd rfl (fun _ _=>?_) fun _ _=>?_
 ·refine .g 8 rfl<|.fi rfl rfl
 ·refine .g 7 rfl<|.bind fun x6 h4=>.st rfl (cl (CC.h h4) [0] [] [true] rfl (.p rfl<|.a kD<|.b<|.nil) (.p rfl (.i<|.i<|.nil) .nil) fnil (.cons (.v (.i<|.i<|.nil)) .nil) (ren_agg (K:=kD) _) (.turned .nil) rfl) rfl<|.g 9 rfl<|.bind fun x7 h5=>.st rfl (cl (CC.h h5) [0] [] [true] rfl (.p rfl<|.a kD<|.b<|.nil) (.p rfl (.i<|.i<|.nil) .nil) fnil (.cons (.v (.i<|.i<|.nil)) .nil) (ren_agg (K:=kD) _) (.turned .nil) rfl) rfl<|.g 9 rfl<|.bind fun x8 h6=>.st rfl (cl (CC.h h6) [0] [] [false] rfl (.p rfl<|.a kD<|.a kD<|.nil) (.p rfl (.i<|.i<|.nil) .nil) fnil (.cons (.v (.i<|.i<|.nil)) .nil) (ren_agg (K:=kI) _) (.kept rfl .nil) rfl) rfl<|.g 4 rfl<|.fi rfl rfl
instance r09_Ends_i (a0:AI) (a1:Int) (a2:Int) (a3:Int):CC (r09_Ends a0 a1 a2 a3) Tryz.prog 74 [(.ptr 0 0),(.agg (kI.enc a0)),(.int .i64 a1)] [(.live 83 [(.int .i64 a2),(.int .i64 a3)])] (fun r=>(.tup [(.agg (kI.enc (⟨⟨(((r.1).Lo).M),((r.1).Lo).E⟩,⟨(((r.1).Hi).M),((r.1).Hi).E⟩⟩:AI))),(.int .i64 r.2)])) (fun r=>[(.live 83 [(.int .i64 a2),(.int .i64 a3)])]):=cc func74 (by kernel_rfl) rfl fun E=>by
 unfold r09_Ends
 refine .g 17 rfl<|?_
 refine .cd rfl (fun _ _=>?_) fun _ _=>?_
 ·refine .g 9 rfl<|.dn (by kernel_rfl)<|.g 3 rfl<|.fi rfl rfl
 ·refine .g 5 rfl<|.bind fun x5 h3=>?_
  rcases x5 with x6 | x7
  ·dsimp only
   refine .st rfl (cl (r06_New_k_0 h3) [] [3] [true] rfl (.i<|.nil) .nil (fresh_cons rfl fnil) (.cons .dead .nil) .nilptr (.turned .nil) rfl) rfl<|.g 7 rfl<|.no
  ·dsimp only
   refine .st rfl (cl (r06_New_k_1 h3) [] [3] [true] rfl (.i<|.nil) .nil (fresh_cons rfl fnil) (.cons (.v (.i<|.i<|.nil)) .nil) (.ptr _ _ _ rfl) (.turned .nil) rfl) rfl<|.g 7 rfl<|.bind fun x8 h4=>.st rfl (cl (CC.h h4) [3] [] [true] rfl (.p rfl<|.a kI<|.nil) (.p rfl (.i<|.i<|.nil) .nil) fnil (.cons (.v (.i<|.i<|.nil)) .nil) (ren_agg (K:=kI) _) (.turned .nil) rfl) rfl<|.g 13 rfl<|.dn (by kernel_rfl)<|.g 2 rfl<|.fi rfl rfl
instance r09_Ln_i (a0:AD) (a1:Int):PC (r09_Ln a0 a1) Tryz.prog 21 [(.agg (kD.enc a0)),(.int .i64 a1)] (fun r=>(.tup [(.agg (kI.enc (⟨⟨(((r.1).Lo).M),((r.1).Lo).E⟩,⟨(((r.1).Hi).M),((r.1).Hi).E⟩⟩:AI))),(.int .i64 r.2)])):=pc func21 (by kernel_rfl) rfl fun E=>by
 unfold r09_Ln
 refine .g 12 rfl<|.p0 rfl rfl fun x36 _=>.g 3 rfl<|?_
 refine .cd rfl (fun _ _=>?_) fun _ _=>?_
 ·refine .g 9 rfl<|.fi rfl rfl
 ·refine .g 5 rfl<|.p0 rfl rfl fun x37 _=>.g 9 rfl<|?_
  refine .cut (fun x:Bool=>(r09_Ln_j1 a1 a0 x37 x,[eI 1 a1,eP 2 0,eP 4 1,eI 6 x37.1,eB 32 x],[(0,(.live 26 [(.bool a0.M.Neg),(slK (kInt .u32) a0.M.Mag),(.int .i64 a0.E)])),(1,(.live 30 [(.bool false),(slK (kInt .u32) []),(.int .i64 0),(.bool false),(slK (kInt .u32) []),(.int .i64 0)]))])) ?_ ?_
  ·rintro y38
   dsimp only [r09_Ln_j1]
   refine .g 1 rfl<|?_
   refine .cd rfl (fun _ _=>?_) fun _ _=>?_
   ·refine .g 9 rfl<|.fi rfl rfl
   ·refine .g 6 rfl<|.bind fun x39 h8=>?_
    rcases x39 with x40 | x41
    ·dsimp only
     refine .st rfl (cl (r06_New_k_0 h8) [] [2] [true] rfl (.i<|.nil) .nil (fresh_cons rfl fnil) (.cons .dead .nil) .nilptr (.turned .nil) rfl) rfl<|.g 15 rfl<|.no
    ·dsimp only
     refine .st rfl (cl (r06_New_k_1 h8) [] [2] [true] rfl (.i<|.nil) .nil (fresh_cons rfl fnil) (.cons (.v (.i<|.i<|.nil)) .nil) (.ptr _ _ _ rfl) (.turned .nil) rfl) rfl<|.g 15 rfl<|.bind fun x42 h9=>.st rfl (cl (CC.h h9) [2] [] [true] rfl (.p rfl<|.a kD<|.nil) (.p rfl (.i<|.i<|.nil) .nil) fnil (.cons (.v (.i<|.i<|.nil)) .nil) (ren_agg (K:=kI) _) (.turned .nil) rfl) rfl<|.g 2 rfl<|.bind fun x43 h10=>.st rfl (cl (CC.h h10) [2] [] [true] rfl (.p rfl<|.a kI<|.i<|.nil) (.p rfl (.i<|.i<|.nil) .nil) fnil (.cons (.v (.i<|.i<|.nil)) .nil) (ren_agg (K:=kI) _) (.turned .nil) rfl) rfl<|.g 6 rfl<|.p0 rfl rfl fun x44 _=>.p0 rfl rfl fun x45 _=>.g 10 rfl<|?_
     refine .cut (fun x:Bool=>(r09_Ln_j2 x43 x41 a1 x37 x,[eI 1 a1,eP 4 1,eP 8 2,eI 9 (IntKind.i64.wrap (x37.1-1)),eP 10 3,eB 62 x],[(1,(.live 30 [(.bool false),(slK (kInt .u32) []),(.int .i64 0),(.bool false),(slK (kInt .u32) []),(.int .i64 0)])),(2,(.live 83 [(.int .i64 x41.1),(.int .i64 x43.2)])),(3,(.live 30 [(.bool ((((x43.1).Lo).M).Neg)),(slK (kInt .u32) ((((x43.1).Lo).M).Mag)),(.int .i64 (((x43.1).Lo).E)),(.bool ((((x43.1).Hi).M).Neg)),(slK (kInt .u32) ((((x43.1).Hi).M).Mag)),(.int .i64 (((x43.1).Hi).E))]))])) ?_ ?_
     ·rintro y47
      dsimp only [r09_Ln_j2]
      refine .g 1 rfl<|?_
      refine .cut (fun x:Int × Int × Bool × (List Int) × Int × Bool × (List Int) × Int=>(r09_Ln_j3 x41 a1 x.1 x.2.1 x.2.2.1 x.2.2.2.1 x.2.2.2.2.1 x.2.2.2.2.2.1 x.2.2.2.2.2.2.1 x.2.2.2.2.2.2.2,[eI 1 a1,eP 4 1,eP 8 2,eI 9 x.1,eP 10 3],[(1,(.live 30 [(.bool false),(slK (kInt .u32) []),(.int .i64 0),(.bool false),(slK (kInt .u32) []),(.int .i64 0)])),(2,(.live 83 [(.int .i64 x41.1),(.int .i64 x.2.1)])),(3,(.live 30 [(.bool x.2.2.1),(slK (kInt .u32) x.2.2.2.1),(.int .i64 x.2.2.2.2.1),(.bool x.2.2.2.2.2.1),(slK (kInt .u32) x.2.2.2.2.2.2.1),(.int .i64 x.2.2.2.2.2.2.2)]))])) ?_ ?_
      ·rintro ⟨y49,y50,y51,y52,y53,y54,y55,y56⟩
       dsimp only [r09_Ln_j3]
       refine .g 7 rfl<|.bind fun x57 h18=>.st rfl (cl (CC.h h18) [2] [] [true] rfl (.p rfl<|.i<|.nil) (.p rfl (.i<|.i<|.nil) .nil) fnil (.cons (.v (.i<|.i<|.nil)) .nil) (ren_agg (K:=kI) _) (.turned .nil) rfl) rfl<|.bind fun x58 h19=>.st rfl (cl (CC.h h19) [2] [] [true] rfl (.p rfl<|.a kI<|.a kI<|.nil) (.p rfl (.i<|.i<|.nil) .nil) fnil (.cons (.v (.i<|.i<|.nil)) .nil) (ren_agg (K:=kI) _) (.turned .nil) rfl) rfl<|.g 3 rfl<|.bind fun x59 h20=>.st rfl (cl (CC.h h20) [2] [] [true] rfl (.p rfl<|.i<|.nil) (.p rfl (.i<|.i<|.nil) .nil) fnil (.cons (.v (.i<|.i<|.nil)) .nil) (ren_agg (K:=kI) _) (.turned .nil) rfl) rfl<|.bind fun x60 h21=>.st rfl (cl (CC.h h21) [2] [] [true] rfl (.p rfl<|.a kI<|.a kI<|.nil) (.p rfl (.i<|.i<|.nil) .nil) fnil (.cons (.v (.i<|.i<|.nil)) .nil) (ren_agg (K:=kI) _) (.turned .nil) rfl) rfl<|.bind fun x61 h22=>.st rfl (cl (CC.h h22) [2] [] [true] rfl (.p rfl<|.a kI<|.a kI<|.nil) (.p rfl (.i<|.i<|.nil) .nil) fnil (.cons (.v (.i<|.i<|.nil)) .nil) (ren_agg (K:=kI) _) (.turned .nil) rfl) rfl<|.g 2 rfl<|.dn (by kernel_rfl)<|?_
       refine .g 6 rfl<|.bind fun x62 h23=>.st rfl (cl (CC.h h23) [2] [] [true] rfl (.p rfl<|.a kI<|.nil) (.p rfl (.i<|.i<|.nil) .nil) fnil (.cons (.v (.i<|.i<|.nil)) .nil) (ren_agg (K:=kI) _) (.turned .nil) rfl) rfl<|.bind fun x63 h24=>.st rfl (cl (CC.h h24) [2] [] [true] rfl (.p rfl<|.a kI<|.i<|.nil) (.p rfl (.i<|.i<|.nil) .nil) fnil (.cons (.v (.i<|.i<|.nil)) .nil) (ren_agg (K:=kI) _) (.turned .nil) rfl) rfl<|.g 11 rfl<|.bind fun x64 h25=>.st rfl (cl (CC.h h25) [2] [] [true] rfl (.p rfl<|.i<|.nil) (.p rfl (.i<|.i<|.nil) .nil) fnil (.cons (.v (.i<|.i<|.nil)) .nil) (ren_agg (K:=kI) _) (.turned .nil) rfl) rfl<|.g 1 rfl<|.bind fun x65 h26=>.st rfl (cl (CC.h h26) [2] [] [true] rfl (.p rfl<|.nil) (.p rfl (.i<|.i<|.nil) .nil) fnil (.cons (.v (.i<|.i<|.nil)) .nil) (ren_agg (K:=kI) _) (.turned .nil) rfl) rfl<|.bind fun x66 h27=>.st rfl (cl (CC.h h27) [2] [] [true] rfl (.p rfl<|.a kI<|.a kI<|.nil) (.p rfl (.i<|.i<|.nil) .nil) fnil (.cons (.v (.i<|.i<|.nil)) .nil) (ren_agg (K:=kI) _) (.turned .nil) rfl) rfl<|.bind fun x67 h28=>?_
       refine .st rfl (cl (CC.h h28) [2] [] [true] rfl (.p rfl<|.a kI<|.a kI<|.nil) (.p rfl (.i<|.i<|.nil) .nil) fnil (.cons (.v (.i<|.i<|.nil)) .nil) (ren_agg (K:=kI) _) (.turned .nil) rfl) rfl<|.g 2 rfl<|.dn (by kernel_rfl)<|.g 6 rfl<|.bind fun x68 h29=>.st rfl (cl (CC.h h29) [2] [] [false] rfl (.p rfl<|.a kI<|.i<|.nil) (.p rfl (.i<|.i<|.nil) .nil) fnil (.cons (.v (.i<|.i<|.nil)) .nil) (ren_tupL (.a kI<|.i<|.nil)) (.kept rfl .nil) rfl) rfl<|.g 7 rfl<|.fi rfl rfl
      ·intro h30
       refine .cd rfl (fun _ _=>?_) fun _ _=>?_
       ·refine .g 4 rfl<|.bind fun x69 h33=>.st rfl (cl (CC.h h33) [2] [] [true] rfl (.p rfl<|.a kI<|.i<|.nil) (.p rfl (.i<|.i<|.nil) .nil) fnil (.cons (.v (.i<|.i<|.nil)) .nil) (ren_agg (K:=kI) _) (.turned .nil) rfl) rfl<|.g 8 rfl<|.jw (h30 ((IntKind.i64.wrap ((IntKind.i64.wrap (x37.1-1))+1)),x69.2,(((x69.1).Lo).M).Neg,(((x69.1).Lo).M).Mag,((x69.1).Lo).E,(((x69.1).Hi).M).Neg,(((x69.1).Hi).M).Mag,((x69.1).Hi).E)) [(1,1),(2,2),(3,3)] rfl
       ·refine .g 1 rfl<|.jw (h30 ((IntKind.i64.wrap (x37.1-1)),x43.2,(((x43.1).Lo).M).Neg,(((x43.1).Lo).M).Mag,((x43.1).Lo).E,(((x43.1).Hi).M).Neg,(((x43.1).Hi).M).Mag,((x43.1).Hi).E)) [(1,1),(2,2),(3,3)] rfl
     ·intro h34
      refine .g 7 rfl<|?_
      refine .gd 56 rfl (fun _=>?_) fun _=>?_
      ·refine .g 3 rfl<|.p0 rfl rfl fun x70 _=>.g 3 rfl<|.jw (h34 (decide (x70≥0))) [(1,1),(2,2),(3,3)] rfl
      ·refine .g 7 rfl<|.jw (h34 false) [(1,1),(2,2),(3,3)] rfl
  ·intro h37
   refine .g 4 rfl<|?_
   refine .gd 28 rfl (fun _=>?_) fun _=>?_
   ·refine .g 5 rfl<|.jw (h37 true) [(0,0),(1,1)] rfl
   ·refine .g 5 rfl<|.jw (h37 a0.M.Neg) [(0,0),(1,1)] rfl
instance r04_Same_i (a0:ApiInt) (a1:ApiInt):PC (r04_Same a0 a1) Tryz.prog 200 [(.agg (kN.enc a0)),(.agg (kN.enc a1))] (fun r=>(.bool r)):=pc func200 (by kernel_rfl) rfl fun E=>by
 unfold r04_Same
 refine .g 9 rfl<|?_
 refine .cut (fun x:Bool=>(r04_Same_j1 a0 a1 x,[eP 2 0,eP 3 1,eB 19 x],[(0,(.live 24 [(.bool a0.Neg),(slK (kInt .u32) a0.Mag)])),(1,(.live 24 [(.bool a1.Neg),(slK (kInt .u32) a1.Mag)]))])) ?_ ?_
 ·rintro y6
  dsimp only [r04_Same_j1]
  refine .g 1 rfl<|?_
  refine .cd rfl (fun _ _=>?_) fun _ _=>?_
  ·refine .g 7 rfl<|.fi rfl rfl
  ·refine .g 8 rfl<|?_
   refine .cut (fun x:Unit=>(r04_Same_j2,[],[])) ?_ ?_
   ·rintro _
    dsimp only [r04_Same_j2]
    refine .g 7 rfl<|.fi rfl rfl
   ·intro h34
    refine .g 1 rfl<|?_
    refine .lp (fun n (x:Int)=>r04_Same_l3 a0 a1 n x) (fun x=>([eP 2 0,eP 3 1,eI 5 x],[(0,(.live 24 [(.bool a0.Neg),(slK (kInt .u32) a0.Mag)])),(1,(.live 24 [(.bool a1.Neg),(slK (kInt .u32) a1.Mag)]))])) 0 [(0,0),(1,1)] rfl ?_
    rintro n3 y10
    try dsimp only
    rw [r04_Same_l3]
    refine .g 6 rfl<|.ln rfl rfl<|.g 3 rfl<|?_
    refine .cd rfl (fun _ _=>?_) fun _ _=>?_
    ·refine .g 9 rfl<|.ix rfl rfl<|.g 4 rfl<|.ix rfl rfl<|.g 2 rfl<|.dn (by kernel_rfl)<|.g 1 rfl<|?_
     refine .cd rfl (fun _ _=>?_) fun _ _=>?_
     ·refine .g 11 rfl<|.fi rfl rfl
     ·refine .g 8 rfl<|.ag (IntKind.i64.wrap (y10+1)) [(0,0),(1,1)] rfl
    ·refine .g 4 rfl<|.jw (h34 ()) [] rfl
 ·intro h65
  refine .g 7 rfl<|?_
  refine .gd 11 rfl (fun _=>?_) fun _=>?_
  ·refine .g 9 rfl<|.jw (h65 true) [(0,0),(1,1)] rfl
  ·refine .g 2 rfl<|.ln rfl rfl<|.g 2 rfl<|.ln rfl rfl<|.g 3 rfl<|.jw (h65 ((a0.Mag.length:Int) != (a1.Mag.length:Int))) [(0,0),(1,1)] rfl
instance r05_Same_i (a0:AD) (a1:AD):PC (r05_Same a0 a1) Tryz.prog 147 [(.agg (kD.enc a0)),(.agg (kD.enc a1))] (fun r=>(.bool r)):=pc func147 (by kernel_rfl) rfl fun E=>by
 unfold r05_Same
 refine .g 8 rfl<|?_
 refine .cut (fun x:Bool=>(r05_Same_j1 x,[eB 4 x],[])) ?_ ?_
 ·rintro y5
  dsimp only [r05_Same_j1]
  refine .g 2 rfl<|.fi rfl rfl
 ·intro h3
  refine .g 7 rfl<|?_
  refine .gd 10 rfl (fun _=>?_) fun _=>?_
  ·refine .g 4 rfl<|.p0 rfl rfl fun x6 _=>.g 3 rfl<|.jw (h3 x6) [] rfl
  ·refine .g 8 rfl<|.jw (h3 false) [] rfl
instance r06_Same_i (a0:AI) (a1:AI):PC (r06_Same a0 a1) Tryz.prog 75 [(.agg (kI.enc a0)),(.agg (kI.enc a1))] (fun r=>(.bool r)):=pc func75 (by kernel_rfl) rfl fun E=>by
 unfold r06_Same
 refine .g 8 rfl<|?_
 refine .cut (fun x:Bool=>(r06_Same_j1 x,[eB 4 x],[])) ?_ ?_
 ·rintro y8
  dsimp only [r06_Same_j1]
  refine .g 2 rfl<|.fi rfl rfl
 ·intro h4
  refine .g 5 rfl<|.p0 rfl rfl fun x9 _=>.g 1 rfl<|?_
  refine .gd 10 rfl (fun _=>?_) fun _=>?_
  ·refine .g 4 rfl<|.p0 rfl rfl fun x10 _=>.g 3 rfl<|.jw (h4 x10) [] rfl
  ·refine .g 8 rfl<|.jw (h4 false) [] rfl
instance l09_same_i (a0:AI) (a1:AI):PC (l09_same a0 a1) Tryz.prog 19 [(.agg (kI.enc a0)),(.agg (kI.enc a1))] (fun r=>(.bool r)):=pc func19 (by kernel_rfl) rfl fun E=>by
 unfold l09_same
 refine .g 11 rfl<|.p0 rfl rfl fun x2 _=>.g 4 rfl<|.fi rfl rfl
end Go.Proofs.YtjfcghliglfapaaGreat.Gen
