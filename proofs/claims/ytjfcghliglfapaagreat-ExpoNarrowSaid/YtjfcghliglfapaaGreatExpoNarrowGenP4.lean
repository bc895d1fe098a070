/- Printed by geng.py: a call does what the plain function says. -/
import Derived.Test.YtjfcghliglfapaaGreatExpoNarrowGenP3
set_option linter.unusedVariables false
set_option linter.unusedSimpArgs false
set_option maxRecDepth 4000
namespace Go.Proofs.YtjfcghliglfapaaGreat.Gen
open Go Go.Abs Go.Proofs Go.Proofs.Tryz
instance r01_Shl_i (a0:List Int) (a1:Int):PC (r01_Shl a0 a1) Tryz.prog 216 [(slK (kInt .u32) a0),(.int .i64 a1)] (fun r=>(.tup [(slK (kInt .u32) r.1),(.bool r.2)])):=pc func216 (by kernel_rfl) rfl fun E=>by
 unfold r01_Shl
 refine .g 8 rfl<|?_
 refine .cut (fun x:Bool=>(r01_Shl_j1 a1 a0 x,[eL 0 a0,eI 1 a1,eB 15 x],[])) ?_ ?_
 ·rintro y17
  dsimp only [r01_Shl_j1]
  refine .g 1 rfl<|?_
  refine .cd rfl (fun _ _=>?_) fun _ _=>?_
  ·refine .g 8 rfl<|.fj rfl rfl (.tup (.cons AVle.nil (.cons (AVle.refl _) .nil)))
  ·refine .g 6 rfl<|.guard fun h4=>.sv (.row 0 (kInt .u32).sz 0 (((List.replicate ((IntKind.i64.wrap (a1.tdiv 32)).toNat) (kInt .u32).z)).length)) [(0,(rwK (kInt .u32) 79 (List.replicate ((IntKind.i64.wrap (a1.tdiv 32)).toNat) (kInt .u32).z)))] rfl (snd_makeK (kInt .u32) _ _ _ _ _ 0 _ _ _ rfl underlying22 ze79 sb79 (by decide) rfl rfl rfl rfl rfl h4) rfl<|.g 14 rfl<|?_
   refine .cut (fun x:Int × (List Int)=>(r01_Shl_j2 x.1 x.2,[(6,some (.row 0 (kInt .u32).sz 0 ((x.2).length))),eX 7 x.1],[(0,(rwK (kInt .u32) 79 x.2))])) ?_ ?_
   ·rintro ⟨y24,y25⟩
    dsimp only [r01_Shl_j2]
    refine .g 6 rfl<|.st rfl (bs (kInt .u32) [(IntKind.u32.wrap y24)] rfl rfl) rfl<|.guard fun h29=>.sv (.row 1 (kInt .u32).sz 0 (((y25++[(IntKind.u32.wrap y24)])).length)) [(1,(rwK (kInt .u32) 79 (y25++[(IntKind.u32.wrap y24)]))),(0,.dead)] rfl (snd_appendK (kInt .u32) _ _ _ _ _ 0 1 y25 [(IntKind.u32.wrap y24)] rfl underlying22 ze79 sb79 rfl rfl rfl rfl rfl rfl h29) rfl<|?_
    refine .weak ?_ (fun a w h=>Conc.freezeK (kInt .u32) h 46 1 0 (((y25++[(IntKind.u32.wrap y24)])).length) 79 (y25++[(IntKind.u32.wrap y24)]) rfl rfl (by omega))
    refine .weak ?_ (fun a w h=>take_all h)
    refine .p0 rfl rfl fun x26 _=>.g 5 rfl<|.fi rfl rfl
   ·intro h31
    refine .g 1 rfl<|?_
    refine .lp (fun n (x:Int × Int × (List Int))=>r01_Shl_l3 a0 a1 n x.1 x.2.1 x.2.2) (fun x=>([eL 0 a0,eI 1 a1,(6,some (.row 0 (kInt .u32).sz 0 ((x.2.2).length))),eX 7 x.1,eI 8 x.2.1],[(0,(rwK (kInt .u32) 79 x.2.2))])) (0,0,(List.replicate ((IntKind.i64.wrap (a1.tdiv 32)).toNat) (kInt .u32).z)) [(0,0)] rfl ?_
    rintro n3 ⟨y30,y31,y32⟩
    try dsimp only
    rw [r01_Shl_l3]
    refine .g 5 rfl<|.ln rfl rfl<|.g 3 rfl<|?_
    refine .cd rfl (fun _ _=>?_) fun _ _=>?_
    ·refine .g 8 rfl<|.ix rfl rfl<|.g 4 rfl<|.guard fun h54=>.st rfl (snd_shl _ _ _ _ _ _ _ _ rfl rfl rfl rfl rfl h54) rfl<|.g 10 rfl<|.st rfl (bs (kInt .u32) [(IntKind.u32.wrap (orI .u64 (shlI .u64 (IntKind.u64.wrap (a0.getD y31.toNat (kInt .u32).z)) (a1.tmod 32)) y30))] rfl rfl) rfl<|.guard fun h55=>.sv (.row 1 (kInt .u32).sz 0 (((y32++[(IntKind.u32.wrap (orI .u64 (shlI .u64 (IntKind.u64.wrap (a0.getD y31.toNat (kInt .u32).z)) (a1.tmod 32)) y30))])).length)) [(1,(rwK (kInt .u32) 79 (y32++[(IntKind.u32.wrap (orI .u64 (shlI .u64 (IntKind.u64.wrap (a0.getD y31.toNat (kInt .u32).z)) (a1.tmod 32)) y30))]))),(0,.dead)] rfl (snd_appendK (kInt .u32) _ _ _ _ _ 0 1 y32 [(IntKind.u32.wrap (orI .u64 (shlI .u64 (IntKind.u64.wrap (a0.getD y31.toNat (kInt .u32).z)) (a1.tmod 32)) y30))] rfl underlying22 ze79 sb79 rfl rfl rfl rfl rfl rfl h55) rfl<|.g 15 rfl<|.ag ((shrI .u64 (orI .u64 (shlI .u64 (IntKind.u64.wrap (a0.getD y31.toNat (kInt .u32).z)) (a1.tmod 32)) y30) 32),(IntKind.i64.wrap (y31+1)),(y32++[(IntKind.u32.wrap (orI .u64 (shlI .u64 (IntKind.u64.wrap (a0.getD y31.toNat (kInt .u32).z)) (a1.tmod 32)) y30))])) [(1,0)] rfl
    ·refine .g 4 rfl<|.jw (h31 (y30,y32)) [(0,0)] rfl
 ·intro h56
  refine .g 4 rfl<|?_
  refine .gd 12 rfl (fun _=>?_) fun _=>?_
  ·refine .g 4 rfl<|.jw (h56 true) [] rfl
  ·refine .g 4 rfl<|.jw (h56 (decide (a1>100000))) [] rfl
instance r05_up_i (a0:ApiInt) (a1:Int):PC (r05_up a0 a1) Tryz.prog 177 [(.agg (kN.enc a0)),(.int .i64 a1)] (fun r=>(.agg (kN.enc (r)))):=pc func177 (by kernel_rfl) rfl fun E=>by
 unfold r05_up
 refine .g 14 rfl<|?_
 refine .cut (fun x:(List Int)=>(r05_up_j1 a0 x,[eP 2 0,eP 4 1,eL 5 x],[(0,(.live 24 [(.bool a0.Neg),(slK (kInt .u32) a0.Mag)])),(1,(.live 24 [(.bool false),(slK (kInt .u32) [])]))])) ?_ ?_
 ·rintro y33
  dsimp only [r05_up_j1]
  refine .g 6 rfl<|.p0 rfl rfl fun x34 _=>.g 4 rfl<|.fi rfl rfl
 ·intro h14
  refine .g 1 rfl<|?_
  refine .lp (fun n (x:Int × (List Int))=>r05_up_l2 a0 n x.1 x.2) (fun x=>([eI 1 x.1,eP 2 0,eP 4 1,eL 5 x.2],[(0,(.live 24 [(.bool a0.Neg),(slK (kInt .u32) a0.Mag)])),(1,(.live 24 [(.bool false),(slK (kInt .u32) [])]))])) (a1,a0.Mag) [(0,0),(1,1)] rfl ?_
  rintro n2 ⟨y41,y42⟩
  try dsimp only
  rw [r05_up_l2]
  refine .g 7 rfl<|?_
  refine .cd rfl (fun _ _=>?_) fun _ _=>?_
  ·refine .g 14 rfl<|.p0 rfl rfl fun x44 _=>.g 13 rfl<|.ag ((IntKind.i64.wrap (y41-(mn y41 100000))),x44.1) [(0,0),(1,1)] rfl
  ·refine .g 4 rfl<|.jw (h14 y42) [(0,0),(1,1)] rfl
instance r05_lift_i (a0:AD) (a1:AD):PC (r05_lift a0 a1) Tryz.prog 155 [(.agg (kD.enc a0)),(.agg (kD.enc a1))] (fun r=>(.tup [(.agg (kN.enc (r.1))),(.agg (kN.enc (r.2.1))),(.int .i64 r.2.2)])):=pc func155 (by kernel_rfl) rfl fun E=>by
 unfold r05_lift
 refine .g 16 rfl<|.ln rfl rfl<|.g 4 rfl<|?_
 refine .cd rfl (fun _ _=>?_) fun _ _=>?_
 ·refine .g 10 rfl<|.dn (by kernel_rfl)<|.g 4 rfl<|.fi rfl rfl
 ·refine .g 5 rfl<|.ln rfl rfl<|.g 4 rfl<|?_
  refine .cd rfl (fun _ _=>?_) fun _ _=>?_
  ·refine .g 10 rfl<|.dn (by kernel_rfl)<|.g 4 rfl<|.fi rfl rfl
  ·refine .g 10 rfl<|?_
   refine .cd rfl (fun _ _=>?_) fun _ _=>?_
   ·refine .g 9 rfl<|.p0 rfl rfl fun x5 _=>.g 7 rfl<|.dn (by kernel_rfl)<|.g 4 rfl<|.fi rfl rfl
   ·refine .g 14 rfl<|.p0 rfl rfl fun x6 _=>.g 5 rfl<|.dn (by kernel_rfl)<|.g 2 rfl<|.fi rfl rfl
instance r05_Cmp_i (a0:AD) (a1:AD):PC (r05_Cmp a0 a1) Tryz.prog 80 [(.agg (kD.enc a0)),(.agg (kD.enc a1))] (fun r=>(.int .i64 r)):=pc func80 (by kernel_rfl) rfl fun E=>by
 unfold r05_Cmp
 refine .g 10 rfl<|.p0 rfl rfl fun x12 _=>.g 6 rfl<|.p0 rfl rfl fun x13 _=>.g 5 rfl<|?_
 refine .cut (fun x:Bool=>(r05_Cmp_j1 a0 a1 x,[eP 2 0,eP 3 1,eB 19 x],[(0,(.live 26 [(.bool a0.M.Neg),(slK (kInt .u32) a0.M.Mag),(.int .i64 a0.E)])),(1,(.live 26 [(.bool a1.M.Neg),(slK (kInt .u32) a1.M.Mag),(.int .i64 a1.E)]))])) ?_ ?_
 ·rintro y14
  dsimp only [r05_Cmp_j1]
  refine .g 1 rfl<|?_
  refine .cd rfl (fun _ _=>?_) fun _ _=>?_
  ·refine .g 7 rfl<|.fi rfl rfl
  ·refine .g 4 rfl<|?_
   refine .cut (fun x:Bool=>(r05_Cmp_j2 a0 a1 x,[eP 2 0,eP 3 1,eB 40 x],[(0,(.live 26 [(.bool a0.M.Neg),(slK (kInt .u32) a0.M.Mag),(.int .i64 a0.E)])),(1,(.live 26 [(.bool a1.M.Neg),(slK (kInt .u32) a1.M.Mag),(.int .i64 a1.E)]))])) ?_ ?_
   ·rintro y15
    dsimp only [r05_Cmp_j2]
    refine .g 1 rfl<|?_
    refine .cd rfl (fun _ _=>?_) fun _ _=>?_
    ·refine .g 6 rfl<|.p0 rfl rfl fun x16 _=>.g 5 rfl<|.fi rfl rfl
    ·refine .g 6 rfl<|.p0 rfl rfl fun x17 _=>.g 1 rfl<|.p0 rfl rfl fun x18 _=>.g 1 rfl<|.dn (by kernel_rfl)<|.g 1 rfl<|?_
     refine .cd rfl (fun _ _=>?_) fun _ _=>?_
     ·refine .g 4 rfl<|.p0 rfl rfl fun x19 _=>.g 1 rfl<|.p0 rfl rfl fun x20 _=>.g 5 rfl<|.dn (by kernel_rfl)<|.g 1 rfl<|?_
      refine .cd rfl (fun _ _=>?_) fun _ _=>?_
      ·refine .g 8 rfl<|.fi rfl rfl
      ·refine .g 9 rfl<|.fi rfl rfl
     ·refine .g 6 rfl<|.p0 rfl rfl fun x21 _=>.g 15 rfl<|.p0 rfl rfl fun x22 _=>.g 4 rfl<|.fi rfl rfl
   ·intro h21
    refine .g 9 rfl<|?_
    refine .gd 27 rfl (fun _=>?_) fun _=>?_
    ·refine .g 14 rfl<|.jw (h21 true) [(0,0),(1,1)] rfl
    ·refine .g 3 rfl<|.ln rfl rfl<|.g 3 rfl<|?_
     refine .gd 34 rfl (fun _=>?_) fun _=>?_
     ·refine .g 7 rfl<|.jw (h21 true) [(0,0),(1,1)] rfl
     ·refine .g 3 rfl<|.ln rfl rfl<|.g 3 rfl<|.jw (h21 ((a1.M.Mag.length:Int) == 0)) [(0,0),(1,1)] rfl
 ·intro h24
  refine .g 4 rfl<|?_
  refine .gd 16 rfl (fun _=>?_) fun _=>?_
  ·refine .g 4 rfl<|.jw (h24 true) [(0,0),(1,1)] rfl
  ·refine .g 4 rfl<|.jw (h24 (!x13)) [(0,0),(1,1)] rfl
instance r06_Right_i (a0:AI):PC (r06_Right a0) Tryz.prog 111 [(.agg (kI.enc a0))] (fun r=>(.bool r)):=pc func111 (by kernel_rfl) rfl fun E=>by
 unfold r06_Right
 refine .g 10 rfl<|.p0 rfl rfl fun x6 _=>.g 7 rfl<|.p0 rfl rfl fun x7 _=>.g 4 rfl<|?_
 refine .cut (fun x:Bool=>(r06_Right_j1 x,[eB 2 x],[])) ?_ ?_
 ·rintro y9
  dsimp only [r06_Right_j1]
  refine .g 2 rfl<|.fi rfl rfl
 ·intro h6
  refine .g 3 rfl<|?_
  refine .gd 12 rfl (fun _=>?_) fun _=>?_
  ·refine .g 3 rfl<|?_
   refine .gd 15 rfl (fun _=>?_) fun _=>?_
   ·refine .g 4 rfl<|.p0 rfl rfl fun x10 _=>.g 4 rfl<|.jw (h6 (decide (x10≤0))) [] rfl
   ·refine .g 9 rfl<|.jw (h6 false) [] rfl
  ·refine .g 12 rfl<|.jw (h6 false) [] rfl
instance r06_Has_i (a0:AI) (a1:AD):PC (r06_Has a0 a1) Tryz.prog 61 [(.agg (kI.enc a0)),(.agg (kD.enc a1))] (fun r=>(.bool r)):=pc func61 (by kernel_rfl) rfl fun E=>by
 unfold r06_Has
 refine .g 10 rfl<|.p0 rfl rfl fun x8 _=>.g 6 rfl<|.p0 rfl rfl fun x9 _=>.g 4 rfl<|?_
 refine .cut (fun x:Bool=>(r06_Has_j1 x,[eB 4 x],[])) ?_ ?_
 ·rintro y12
  dsimp only [r06_Has_j1]
  refine .g 2 rfl<|.fi rfl rfl
 ·intro h8
  refine .g 3 rfl<|?_
  refine .gd 12 rfl (fun _=>?_) fun _=>?_
  ·refine .g 3 rfl<|?_
   refine .gd 15 rfl (fun _=>?_) fun _=>?_
   ·refine .g 3 rfl<|.p0 rfl rfl fun x13 _=>.g 3 rfl<|?_
    refine .gd 22 rfl (fun _=>?_) fun _=>?_
    ·refine .g 3 rfl<|.p0 rfl rfl fun x14 _=>.g 4 rfl<|.jw (h8 (decide (x14≤0))) [] rfl
    ·refine .g 8 rfl<|.jw (h8 false) [] rfl
   ·refine .g 15 rfl<|.jw (h8 false) [] rfl
  ·refine .g 18 rfl<|.jw (h8 false) [] rfl
instance l09_examples_i:PC (l09_examples) Tryz.prog 15 [] (fun r=>(.bool r)):=pc func15 (by kernel_rfl) rfl fun E=>by
 unfold l09_examples
 refine .g 8 rfl<|.p0 rfl rfl fun x10 _=>.g 10 rfl<|.p0 rfl rfl fun x11 _=>.p0 rfl rfl fun x12 _=>.g 11 rfl<|.p0 rfl rfl fun x13 _=>.g 9 rfl<|?_
 refine .cut (fun x:Bool=>(l09_examples_j1 x,[eB 0 x],[])) ?_ ?_
 ·rintro y16
  dsimp only [l09_examples_j1]
  refine .g 2 rfl<|.fi rfl rfl
 ·intro h10
  refine .g 4 rfl<|?_
  refine .gd 24 rfl (fun _=>?_) fun _=>?_
  ·refine .g 4 rfl<|?_
   refine .gd 28 rfl (fun _=>?_) fun _=>?_
   ·refine .g 4 rfl<|?_
    refine .gd 32 rfl (fun _=>?_) fun _=>?_
    ·refine .g 1 rfl<|.p0 rfl rfl fun x17 _=>.p0 rfl rfl fun x18 _=>.g 2 rfl<|.dn (by kernel_rfl)<|.jw (h10 x18) [] rfl
    ·refine .g 5 rfl<|.dn (by kernel_rfl)<|.jw (h10 false) [] rfl
   ·refine .g 9 rfl<|.dn (by kernel_rfl)<|.jw (h10 false) [] rfl
  ·refine .g 13 rfl<|.dn (by kernel_rfl)<|.jw (h10 false) [] rfl
instance l09_prec_i (a0:Int):PC (l09_prec a0) Tryz.prog 22 [(.int .i64 a0)] (fun r=>(.int .i64 r)):=pc func22 (by kernel_rfl) rfl fun E=>by
 unfold l09_prec
 refine .g 12 rfl<|?_
 refine .cut (fun x:Int=>(l09_prec_j1 x,[eI 0 x],[])) ?_ ?_
 ·rintro y2
  dsimp only [l09_prec_j1]
  refine .g 10 rfl<|.fi rfl rfl
 ·intro h3
  refine .cd rfl (fun _ _=>?_) fun _ _=>?_
  ·refine .g 6 rfl<|.jw (h3 (IntKind.i64.wrap (0-(IntKind.i64.wrap (a0+1))))) [] rfl
  ·refine .g 1 rfl<|.jw (h3 a0) [] rfl
instance r05_inRange_i (a0:AD):PC (r05_inRange a0) Tryz.prog 159 [(.agg (kD.enc a0))] (fun r=>(.bool r)):=pc func159 (by kernel_rfl) rfl fun E=>by
 unfold r05_inRange
 refine .g 12 rfl<|.ln rfl rfl<|.g 3 rfl<|?_
 refine .cd rfl (fun _ _=>?_) fun _ _=>?_
 ·refine .g 7 rfl<|.fi rfl rfl
 ·refine .g 5 rfl<|.p0 rfl rfl fun x5 _=>.g 4 rfl<|?_
  refine .cut (fun x:Bool=>(r05_inRange_j1 x,[eB 2 x],[])) ?_ ?_
  ·rintro y7
   dsimp only [r05_inRange_j1]
   refine .g 2 rfl<|.fi rfl rfl
  ·intro h9
   refine .g 4 rfl<|?_
   refine .gd 13 rfl (fun _=>?_) fun _=>?_
   ·refine .g 4 rfl<|?_
    refine .gd 17 rfl (fun _=>?_) fun _=>?_
    ·refine .g 5 rfl<|?_
     refine .gd 22 rfl (fun _=>?_) fun _=>?_
     ·refine .g 5 rfl<|?_
      refine .gd 27 rfl (fun _=>?_) fun _=>?_
      ·refine .g 3 rfl<|.p0 rfl rfl fun x8 _=>.g 4 rfl<|.jw (h9 (decide (x8≤262144))) [] rfl
      ·refine .g 8 rfl<|.jw (h9 false) [] rfl
     ·refine .g 13 rfl<|.jw (h9 false) [] rfl
    ·refine .g 18 rfl<|.jw (h9 false) [] rfl
   ·refine .g 22 rfl<|.jw (h9 false) [] rfl
instance r05_Make_i (a0:ApiInt) (a1:Int):PC (r05_Make a0 a1) Tryz.prog 87 [(.agg (kN.enc a0)),(.int .i64 a1)] (fun r=>(.tup [(.agg (kD.enc (⟨((r.1).M),(r.1).E⟩:AD))),(.bool r.2)])):=pc func87 (by kernel_rfl) rfl fun E=>by
 unfold r05_Make
 refine .g 9 rfl<|?_
 refine .cut (fun x:Bool=>(r05_Make_j1 a0 a1 x,[eI 1 a1,eP 2 0,eP 4 1,eB 13 x],[(0,(.live 24 [(.bool a0.Neg),(slK (kInt .u32) a0.Mag)])),(1,(.live 26 [(.bool false),(slK (kInt .u32) []),(.int .i64 0)]))])) ?_ ?_
 ·rintro y4
  dsimp only [r05_Make_j1]
  refine .g 1 rfl<|?_
  refine .cd rfl (fun _ _=>?_) fun _ _=>?_
  ·refine .g 9 rfl<|.fi rfl rfl
  ·refine .g 6 rfl<|.p0 rfl rfl fun x5 _=>.g 7 rfl<|.p0 rfl rfl fun x6 _=>.g 10 rfl<|?_
   refine .cd rfl (fun _ _=>?_) fun _ _=>?_
   ·refine .g 9 rfl<|.fi rfl rfl
   ·refine .g 10 rfl<|.fi rfl rfl
 ·intro h8
  refine .g 4 rfl<|?_
  refine .gd 10 rfl (fun _=>?_) fun _=>?_
  ·refine .g 4 rfl<|.jw (h8 true) [(0,0),(1,1)] rfl
  ·refine .g 4 rfl<|.jw (h8 (decide (a1>100000))) [(0,0),(1,1)] rfl
instance l09_place_i (a0:AD) (a1:Int):PC (l09_place a0 a1) Tryz.prog 24 [(.agg (kD.enc a0)),(.int .i64 a1)] (fun r=>(.agg (kD.enc (⟨((r).M),(r).E⟩:AD)))):=pc func24 (by kernel_rfl) rfl fun E=>by
 unfold l09_place
 refine .g 17 rfl<|.ln rfl rfl<|.g 1 rfl<|.guard fun h1=>.sv (slK (kInt .u32) (a0.M.Mag.take ((mn (a0.M.Mag.length:Int) 2).toNat))) [] rfl (snd_sliceK (kInt .u32) _ _ _ _ _ _ 0 (mn (a0.M.Mag.length:Int) 2) rfl underlying22 si79 rfl rfl rfl rfl rfl h1) rfl<|.p0 rfl rfl fun x3 _=>.g 2 rfl<|.p0 rfl rfl fun x4 _=>.g 6 rfl<|.dn (by kernel_rfl)<|.g 8 rfl<|.fi rfl rfl
instance cv_Meet_i (a0:AI) (a1:AI) (a2:Int) (a3:Int):CC (cv_Meet a0 a1 a2 a3) Tryz.prog 27 [(.ptr 0 0),(.agg (kI.enc a0)),(.agg (kI.enc a1))] [(.live 52 [(.int .i64 a2),(.int .i64 a3)])] (fun r=>(.agg (kI.enc (⟨⟨(((r.1).Lo).M),((r.1).Lo).E⟩,⟨(((r.1).Hi).M),((r.1).Hi).E⟩⟩:AI)))) (fun r=>[(.live 52 [(.int .i64 r.2),(.int .i64 a3)])]):=cc func27 (by kernel_rfl) rfl fun E=>by
 unfold cv_Meet
 refine .g 13 rfl<|.st rfl (bs kI [a0,a1] rfl rfl) rfl<|.bind fun x6 h1=>.st rfl (cl (CC.h h1) [0] [] [true] rfl (.p rfl<|.l<|.nil) (.p rfl (.i<|.i<|.nil) .nil) fnil (.cons (.v (.i<|.i<|.nil)) .nil) (.bool _) (.turned .nil) rfl) rfl<|.g 3 rfl<|?_
 refine .cd rfl (fun _ _=>?_) fun _ _=>?_
 ·refine .g 8 rfl<|.fi rfl rfl
 ·refine .g 8 rfl<|.st rfl (bs kD [a0.Lo,a1.Lo] rfl rfl) rfl<|.p0 rfl rfl fun x7 _=>.g 15 rfl<|.st rfl (bs kD [a0.Hi,a1.Hi] rfl rfl) rfl<|.p0 rfl rfl fun x8 _=>.g 14 rfl<|.p0 rfl rfl fun x9 _=>.g 3 rfl<|?_
  refine .cd rfl (fun _ _=>?_) fun _ _=>?_
  ·refine .g 5 rfl<|.bind fun x10 h9=>.st rfl (cl (CC.h h9) [0] [] [true] rfl (.p rfl<|.i<|.nil) (.p rfl (.i<|.i<|.nil) .nil) fnil (.cons (.v (.i<|.i<|.nil)) .nil) (.bool _) (.turned .nil) rfl) rfl<|.g 10 rfl<|.fi rfl rfl
  ·refine .g 11 rfl<|.fi rfl rfl
instance dyad_Sub_i (a0:AD) (a1:AD):PC (dyad_Sub a0 a1) Tryz.prog 42 [(.agg (kD.enc a0)),(.agg (kD.enc a1))] (fun r=>(.tup [(.agg (kD.enc (⟨((r.1).M),(r.1).E⟩:AD))),(.int .i64 r.2)])):=pc func42 (by kernel_rfl) rfl fun E=>by
 unfold dyad_Sub
 refine .g 21 rfl<|.st rfl (bs kD [a0,a1] rfl rfl) rfl<|.bind fun x10 h1=>.st rfl (cl (CC.h h1) [3] [] [true] rfl (.p rfl<|.l<|.nil) (.p rfl (.i<|.b<|.l<|.i<|.nil) .nil) fnil (.cons (.v (.i<|.b<|.l<|.i<|.nil)) .nil) (.bool _) (.turned .nil) rfl) rfl<|.g 2 rfl<|?_
 refine .cut (fun x:Bool × (List Int) × Int=>(dyad_Sub_j1 x10 x.1 x.2.1 x.2.2,[eP 4 2,eP 6 3],[(2,(.live 26 [(.bool false),(slK (kInt .u32) []),(.int .i64 0)])),(3,(.live 92 [(.int .i64 x10.2),(.bool x.1),(slK (kInt .u32) x.2.1),(.int .i64 x.2.2)]))])) ?_ ?_
 ·rintro ⟨y13,y14,y15⟩
  dsimp only [dyad_Sub_j1]
  refine .g 4 rfl<|.bind fun x16 h6=>.st rfl (cl (CC.h h6) [3] [] [true] rfl (.p rfl<|.nil) (.p rfl (.i<|.b<|.l<|.i<|.nil) .nil) fnil (.cons (.v (.i<|.b<|.l<|.i<|.nil)) .nil) (ren_tupL (.a kD<|.i<|.nil)) (.turned .nil) rfl) rfl<|.g 7 rfl<|.fi rfl rfl
 ·intro h7
  refine .cd rfl (fun _ _=>?_) fun _ _=>?_
  ·refine .g 4 rfl<|.p0 rfl rfl fun x17 _=>.p0 rfl rfl fun x18 _=>.g 3 rfl<|.dn (by kernel_rfl)<|.jw (h7 (((x18).M).Neg,((x18).M).Mag,(x18).E)) [(2,2),(3,3)] rfl
  ·refine .g 1 rfl<|.jw (h7 (false,[],0)) [(2,2),(3,3)] rfl
instance l09_bound_i (a0:AI) (a1:Int):PC (l09_bound a0 a1) Tryz.prog 43 [(.agg (kI.enc a0)),(.int .i64 a1)] (fun r=>(.agg (kD.enc (⟨((r).M),(r).E⟩:AD)))):=pc func43 (by kernel_rfl) rfl fun E=>by
 unfold l09_bound
 refine .g 15 rfl<|.p0 rfl rfl fun x6 _=>.g 13 rfl<|?_
 refine .cut (fun x:Int=>(l09_bound_j1 a0 a1 x,[eI 1 a1,eP 2 0,eP 4 1,eI 5 x],[(0,(.live 30 [(.bool a0.Lo.M.Neg),(slK (kInt .u32) a0.Lo.M.Mag),(.int .i64 a0.Lo.E),(.bool a0.Hi.M.Neg),(slK (kInt .u32) a0.Hi.M.Mag),(.int .i64 a0.Hi.E)])),(1,(.live 26 [(.bool false),(slK (kInt .u32) []),(.int .i64 0)]))])) ?_ ?_
 ·rintro y7
  dsimp only [l09_bound_j1]
  refine .g 5 rfl<|.p0 rfl rfl fun x8 _=>.g 13 rfl<|?_
  refine .cut (fun x:Int=>(l09_bound_j2 a1 x,[eI 1 a1,eP 4 1,eI 5 x],[(1,(.live 26 [(.bool false),(slK (kInt .u32) []),(.int .i64 0)]))])) ?_ ?_
  ·rintro y9
   dsimp only [l09_bound_j2]
   refine .g 7 rfl<|.p0 rfl rfl fun x10 _=>.g 4 rfl<|.fi rfl rfl
  ·intro h8
   refine .cd rfl (fun _ _=>?_) fun _ _=>?_
   ·refine .g 6 rfl<|.jw (h8 (mx y7 x8.1)) [(1,1)] rfl
   ·refine .g 1 rfl<|.jw (h8 y7) [(1,1)] rfl
 ·intro h11
  refine .cd rfl (fun _ _=>?_) fun _ _=>?_
  ·refine .g 6 rfl<|.jw (h11 (mx 1 x6.1)) [(0,0),(1,1)] rfl
  ·refine .g 1 rfl<|.jw (h11 1) [(0,0),(1,1)] rfl
instance l09_ExpoNarrow_i (a0:AD) (a1:Int) (a2:Bool):PC (l09_ExpoNarrow a0 a1 a2) Tryz.prog 9 [(.agg (kD.enc a0)),(.int .i64 a1),(.bool a2)] (fun r=>(.bool r)):=pc func9 (by kernel_rfl) rfl fun E=>by
 unfold l09_ExpoNarrow
 refine .g 8 rfl<|.p0 rfl rfl fun x40 _=>.g 10 rfl<|?_
 refine .cd rfl (fun _ _=>?_) fun _ _=>?_
 ·refine .g 7 rfl<|.fi rfl rfl
 ·refine .g 5 rfl<|.p0 rfl rfl fun x41 _=>.g 7 rfl<|.bind fun x42 h5=>?_
  rcases x42 with x43 | x44
  ·dsimp only
   refine .st rfl (cl (iv_New_k_0 h5) [] [1] [true] rfl (.i<|.nil) .nil (fresh_cons rfl fnil) (.cons .dead .nil) (ren_tupL (.cons .nilptr<|.i<|.nil)) (.turned .nil) rfl) rfl<|.g 26 rfl<|.fi rfl rfl
  ·dsimp only
   refine .st rfl (cl (iv_New_k_1 h5) [] [1] [true] rfl (.i<|.nil) .nil (fresh_cons rfl fnil) (.cons (.v (.i<|.i<|.nil)) .nil) (ren_tupL (.p rfl<|.i<|.nil)) (.turned .nil) rfl) rfl<|.g 18 rfl<|?_
   refine .cd rfl (fun _ _=>?_) fun _ _=>?_
   ·refine .g 7 rfl<|.fi rfl rfl
   ·refine .g 5 rfl<|.p0 rfl rfl fun x45 _=>.g 30 rfl<|?_
    refine .cut (fun x:Int × Int × Bool × (List Int) × Int × Bool × (List Int) × Int × Bool × (List Int) × Int × Bool × (List Int) × Int=>(l09_ExpoNarrow_j1 x44 x40 x41 x.1 x.2.1 x.2.2.1 x.2.2.2.1 x.2.2.2.2.1 x.2.2.2.2.2.1 x.2.2.2.2.2.2.1 x.2.2.2.2.2.2.2.1 x.2.2.2.2.2.2.2.2.1 x.2.2.2.2.2.2.2.2.2.1 x.2.2.2.2.2.2.2.2.2.2.1 x.2.2.2.2.2.2.2.2.2.2.2.1 x.2.2.2.2.2.2.2.2.2.2.2.2.1 x.2.2.2.2.2.2.2.2.2.2.2.2.2,[eI 1 x41,eB 7 x40,eP 8 1,eI 11 x.1,eI 12 x.2.1,eP 13 3,eP 14 4],[(1,(.live 52 [(.int .i64 x44.2.1),(.int .i64 x44.2.2)])),(3,(.live 30 [(.bool x.2.2.1),(slK (kInt .u32) x.2.2.2.1),(.int .i64 x.2.2.2.2.1),(.bool x.2.2.2.2.2.1),(slK (kInt .u32) x.2.2.2.2.2.2.1),(.int .i64 x.2.2.2.2.2.2.2.1)])),(4,(.live 30 [(.bool x.2.2.2.2.2.2.2.2.1),(slK (kInt .u32) x.2.2.2.2.2.2.2.2.2.1),(.int .i64 x.2.2.2.2.2.2.2.2.2.2.1),(.bool x.2.2.2.2.2.2.2.2.2.2.2.1),(slK (kInt .u32) x.2.2.2.2.2.2.2.2.2.2.2.2.1),(.int .i64 x.2.2.2.2.2.2.2.2.2.2.2.2.2)]))])) ?_ ?_
    ·rintro ⟨y51,y52,y53,y54,y55,y56,y57,y58,y59,y60,y61,y62,y63,y64⟩
     dsimp only [l09_ExpoNarrow_j1]
     refine .g 6 rfl<|.bind fun x65 h18=>.st rfl (cl (CC.h h18) [1] [] [true] rfl (.p rfl<|.a kI<|.a kI<|.nil) (.p rfl (.i<|.i<|.nil) .nil) fnil (.cons (.v (.i<|.i<|.nil)) .nil) (ren_agg (K:=kI) _) (.turned .nil) rfl) rfl<|.g 8 rfl<|.p0 rfl rfl fun x66 _=>.g 9 rfl<|?_
     refine .cut (fun x:Bool=>(l09_ExpoNarrow_j2 x,[eB 6 x],[])) ?_ ?_
     ·rintro y70
      dsimp only [l09_ExpoNarrow_j2]
      refine .g 2 rfl<|.fi rfl rfl
     ·intro h28
      refine .g 3 rfl<|?_
      refine .gd 83 rfl (fun _=>?_) fun _=>?_
      ·refine .g 4 rfl<|?_
       refine .gd 87 rfl (fun _=>?_) fun _=>?_
       ·refine .g 4 rfl<|?_
        refine .gd 91 rfl (fun _=>?_) fun _=>?_
        ·refine .g 4 rfl<|?_
         refine .gd 95 rfl (fun _=>?_) fun _=>?_
         ·refine .g 3 rfl<|.bind fun x71 h33=>.st rfl (cl (CC.h h33) [1] [] [false] rfl (.p rfl<|.nil) (.p rfl (.i<|.i<|.nil) .nil) fnil (.cons (.v (.i<|.i<|.nil)) .nil) (.int _ _) (.kept rfl .nil) rfl) rfl<|.g 3 rfl<|?_
          refine .gd 102 rfl (fun _=>?_) fun _=>?_
          ·refine .g 3 rfl<|.p0 rfl rfl fun x72 _=>.p0 rfl rfl fun x73 _=>.g 3 rfl<|.dn (by kernel_rfl)<|.jw (h28 (decide (x73≤0))) [] rfl
          ·refine .g 8 rfl<|.dn (by kernel_rfl)<|.jw (h28 false) [] rfl
         ·refine .g 15 rfl<|.dn (by kernel_rfl)<|.jw (h28 false) [] rfl
        ·refine .g 19 rfl<|.dn (by kernel_rfl)<|.jw (h28 false) [] rfl
       ·refine .g 23 rfl<|.dn (by kernel_rfl)<|.jw (h28 false) [] rfl
      ·refine .g 27 rfl<|.dn (by kernel_rfl)<|.jw (h28 false) [] rfl
    ·intro h37
     refine .cd rfl (fun _ _=>?_) fun _ _=>?_
     ·refine .g 12 rfl<|.p0 rfl rfl fun x74 _=>.g 3 rfl<|?_
      refine .cd rfl (fun _ _=>?_) fun _ _=>?_
      ·refine .g 9 rfl<|.fi rfl rfl
      ·refine .g 6 rfl<|.p0 rfl rfl fun x75 _=>.g 11 rfl<|.p0 rfl rfl fun x76 _=>.g 6 rfl<|.jw (h37 (x75.2,x76.2,(((x75.1).Lo).M).Neg,(((x75.1).Lo).M).Mag,((x75.1).Lo).E,(((x75.1).Hi).M).Neg,(((x75.1).Hi).M).Mag,((x75.1).Hi).E,(((x76.1).Lo).M).Neg,(((x76.1).Lo).M).Mag,((x76.1).Lo).E,(((x76.1).Hi).M).Neg,(((x76.1).Hi).M).Mag,((x76.1).Hi).E)) [(1,1),(3,3),(4,4)] rfl
     ·refine .g 4 rfl<|.p0 rfl rfl fun x77 _=>.g 11 rfl<|.p0 rfl rfl fun x78 _=>.g 6 rfl<|.jw (h37 (x77.2,x78.2,(((x77.1).Lo).M).Neg,(((x77.1).Lo).M).Mag,((x77.1).Lo).E,(((x77.1).Hi).M).Neg,(((x77.1).Hi).M).Mag,((x77.1).Hi).E,(((x78.1).Lo).M).Neg,(((x78.1).Lo).M).Mag,((x78.1).Lo).E,(((x78.1).Hi).M).Neg,(((x78.1).Hi).M).Mag,((x78.1).Hi).E)) [(1,1),(3,3),(4,4)] rfl
end Go.Proofs.YtjfcghliglfapaaGreat.Gen
