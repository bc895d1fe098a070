/- Printed by geng.py: a call does what the plain function says. -/
import Derived.Test.YtjfcghliglfapaaGreatExpoOfGenP3
set_option maxRecDepth 4000
namespace Go.Proofs.YtjfcghliglfapaaGreat.Gen
open Go Go.Abs Go.Proofs Go.Proofs.Tryz
instance r01_Shl_i (a0:List Int) (a1:Int):PC (r01_Shl a0 a1) Tryz.prog 216 [(slK (kInt .u32) a0),(.int .i64 a1)] (fun r=>(.tup [(slK (kInt .u32) r.1),(.bool r.2)])):=pc func216 (by kernel_rfl) rfl fun E=>by
 unfold r01_Shl
 refine .g 8 rfl<|?_
 refine .cut (fun x:Bool=>(r01_Shl_j1 a1 a0 x,[eL 0 a0,eI 1 a1,eB 15 x],[])) ?_ ?_
 ·rintro y17
  dsimp only [r01_Shl_j1]
  refine .g 1 rfl<|?_
  refine .cd rfl (fun _ _=>?_) fun _ _=>?_
  ·refine .g 8 rfl<|.fj rfl rfl (.tup (.cons AVle.nil (.cons (AVle.refl _) .nil)))
  ·refine .g 6 rfl<|.guard fun h4=>.sv (.row 0 (kInt .u32).sz 0 (((List.replicate ((IntKind.i64.wrap (a1.tdiv 32)).toNat) (kInt .u32).z)).length)) [(0,(rwK (kInt .u32) 79 (List.replicate ((IntKind.i64.wrap (a1.tdiv 32)).toNat) (kInt .u32).z)))] rfl (snd_makeK (kInt .u32) _ _ _ _ _ 0 _ _ _ rfl underlying22 ze79 sb79 (by decide) rfl rfl rfl rfl rfl h4) rfl<|.g 14 rfl<|?_
   refine .cut (fun x:Int × (List Int)=>(r01_Shl_j2 x.1 x.2,[(6,some (.row 0 (kInt .u32).sz 0 ((x.2).length))),eX 7 x.1],[(0,(rwK (kInt .u32) 79 x.2))])) ?_ ?_
   ·rintro ⟨y24,y25⟩
    dsimp only [r01_Shl_j2]
    refine .g 6 rfl<|.st rfl (bs (kInt .u32) [(IntKind.u32.wrap y24)] rfl rfl) rfl<|.guard fun h29=>.sv (.row 1 (kInt .u32).sz 0 (((y25++[(IntKind.u32.wrap y24)])).length)) [(1,(rwK (kInt .u32) 79 (y25++[(IntKind.u32.wrap y24)]))),(0,.dead)] rfl (snd_appendK (kInt .u32) _ _ _ _ _ 0 1 y25 [(IntKind.u32.wrap y24)] rfl underlying22 ze79 sb79 rfl rfl rfl rfl rfl rfl h29) rfl<|?_
    refine .weak ?_ (fun a w h=>Conc.freezeK (kInt .u32) h 46 1 0 (((y25++[(IntKind.u32.wrap y24)])).length) 79 (y25++[(IntKind.u32.wrap y24)]) rfl rfl (by omega))
    refine .weak ?_ (fun a w h=>take_all h)
    refine .p0 rfl rfl fun x26 _=>.g 5 rfl<|.fi rfl rfl
   ·intro h31
    refine .g 1 rfl<|?_
    refine .lp (fun n (x:Int × Int × (List Int))=>r01_Shl_l3 a0 a1 n x.1 x.2.1 x.2.2) (fun x=>([eL 0 a0,eI 1 a1,(6,some (.row 0 (kInt .u32).sz 0 ((x.2.2).length))),eX 7 x.1,eI 8 x.2.1],[(0,(rwK (kInt .u32) 79 x.2.2))])) (0,0,(List.replicate ((IntKind.i64.wrap (a1.tdiv 32)).toNat) (kInt .u32).z)) [(0,0)] rfl ?_
    rintro n3 ⟨y30,y31,y32⟩
    try dsimp only
    rw [r01_Shl_l3]
    refine .g 5 rfl<|.ln rfl rfl<|.g 3 rfl<|?_
    refine .cd rfl (fun _ _=>?_) fun _ _=>?_
    ·refine .g 8 rfl<|.ix rfl rfl<|.g 4 rfl<|.guard fun h54=>.st rfl (snd_shl _ _ _ _ _ _ _ _ rfl rfl rfl rfl rfl h54) rfl<|.g 10 rfl<|.st rfl (bs (kInt .u32) [(IntKind.u32.wrap (orI .u64 (shlI .u64 (IntKind.u64.wrap (a0.getD y31.toNat (kInt .u32).z)) (a1.tmod 32)) y30))] rfl rfl) rfl<|.guard fun h55=>.sv (.row 1 (kInt .u32).sz 0 (((y32++[(IntKind.u32.wrap (orI .u64 (shlI .u64 (IntKind.u64.wrap (a0.getD y31.toNat (kInt .u32).z)) (a1.tmod 32)) y30))])).length)) [(1,(rwK (kInt .u32) 79 (y32++[(IntKind.u32.wrap (orI .u64 (shlI .u64 (IntKind.u64.wrap (a0.getD y31.toNat (kInt .u32).z)) (a1.tmod 32)) y30))]))),(0,.dead)] rfl (snd_appendK (kInt .u32) _ _ _ _ _ 0 1 y32 [(IntKind.u32.wrap (orI .u64 (shlI .u64 (IntKind.u64.wrap (a0.getD y31.toNat (kInt .u32).z)) (a1.tmod 32)) y30))] rfl underlying22 ze79 sb79 rfl rfl rfl rfl rfl rfl h55) rfl<|.g 15 rfl<|.ag ((shrI .u64 (orI .u64 (shlI .u64 (IntKind.u64.wrap (a0.getD y31.toNat (kInt .u32).z)) (a1.tmod 32)) y30) 32),(IntKind.i64.wrap (y31+1)),(y32++[(IntKind.u32.wrap (orI .u64 (shlI .u64 (IntKind.u64.wrap (a0.getD y31.toNat (kInt .u32).z)) (a1.tmod 32)) y30))])) [(1,0)] rfl
    ·refine .g 4 rfl<|.jw (h31 (y30,y32)) [(0,0)] rfl
 ·intro h56
  refine .g 4 rfl<|?_
  refine .gd 12 rfl (fun _=>?_) fun _=>?_
  ·refine .g 4 rfl<|.jw (h56 true) [] rfl
  ·refine .g 4 rfl<|.jw (h56 (decide (a1>100000))) [] rfl
instance r05_up_i (a0:ApiInt) (a1:Int):PC (r05_up a0 a1) Tryz.prog 177 [(.agg (kN.enc a0)),(.int .i64 a1)] (fun r=>(.agg (kN.enc (r)))):=pc func177 (by kernel_rfl) rfl fun E=>by
 unfold r05_up
 refine .g 14 rfl<|?_
 refine .cut (fun x:(List Int)=>(r05_up_j1 a0 x,[eP 2 0,eP 4 1,eL 5 x],[(0,(.live 24 [(.bool a0.Neg),(slK (kInt .u32) a0.Mag)])),(1,(.live 24 [(.bool false),(slK (kInt .u32) [])]))])) ?_ ?_
 ·rintro y33
  dsimp only [r05_up_j1]
  refine .g 6 rfl<|.p0 rfl rfl fun x34 _=>.g 4 rfl<|.fi rfl rfl
 ·intro h14
  refine .g 1 rfl<|?_
  refine .lp (fun n (x:Int × (List Int))=>r05_up_l2 a0 n x.1 x.2) (fun x=>([eI 1 x.1,eP 2 0,eP 4 1,eL 5 x.2],[(0,(.live 24 [(.bool a0.Neg),(slK (kInt .u32) a0.Mag)])),(1,(.live 24 [(.bool false),(slK (kInt .u32) [])]))])) (a1,a0.Mag) [(0,0),(1,1)] rfl ?_
  rintro n2 ⟨y41,y42⟩
  try dsimp only
  rw [r05_up_l2]
  refine .g 7 rfl<|?_
  refine .cd rfl (fun _ _=>?_) fun _ _=>?_
  ·refine .g 14 rfl<|.p0 rfl rfl fun x44 _=>.g 13 rfl<|.ag ((IntKind.i64.wrap (y41-(mn y41 100000))),x44.1) [(0,0),(1,1)] rfl
  ·refine .g 4 rfl<|.jw (h14 y42) [(0,0),(1,1)] rfl
instance r05_lift_i (a0:AD) (a1:AD):PC (r05_lift a0 a1) Tryz.prog 155 [(.agg (kD.enc a0)),(.agg (kD.enc a1))] (fun r=>(.tup [(.agg (kN.enc (r.1))),(.agg (kN.enc (r.2.1))),(.int .i64 r.2.2)])):=pc func155 (by kernel_rfl) rfl fun E=>by
 unfold r05_lift
 refine .g 16 rfl<|.ln rfl rfl<|.g 4 rfl<|?_
 refine .cd rfl (fun _ _=>?_) fun _ _=>?_
 ·refine .g 10 rfl<|.dn (by kernel_rfl)<|.g 4 rfl<|.fi rfl rfl
 ·refine .g 5 rfl<|.ln rfl rfl<|.g 4 rfl<|?_
  refine .cd rfl (fun _ _=>?_) fun _ _=>?_
  ·refine .g 10 rfl<|.dn (by kernel_rfl)<|.g 4 rfl<|.fi rfl rfl
  ·refine .g 10 rfl<|?_
   refine .cd rfl (fun _ _=>?_) fun _ _=>?_
   ·refine .g 9 rfl<|.p0 rfl rfl fun x5 _=>.g 7 rfl<|.dn (by kernel_rfl)<|.g 4 rfl<|.fi rfl rfl
   ·refine .g 14 rfl<|.p0 rfl rfl fun x6 _=>.g 5 rfl<|.dn (by kernel_rfl)<|.g 2 rfl<|.fi rfl rfl
instance r05_Cmp_i (a0:AD) (a1:AD):PC (r05_Cmp a0 a1) Tryz.prog 80 [(.agg (kD.enc a0)),(.agg (kD.enc a1))] (fun r=>(.int .i64 r)):=pc func80 (by kernel_rfl) rfl fun E=>by
 unfold r05_Cmp
 refine .g 10 rfl<|.p0 rfl rfl fun x12 _=>.g 6 rfl<|.p0 rfl rfl fun x13 _=>.g 5 rfl<|?_
 refine .cut (fun x:Bool=>(r05_Cmp_j1 a0 a1 x,[eP 2 0,eP 3 1,eB 19 x],[(0,(.live 26 [(.bool a0.M.Neg),(slK (kInt .u32) a0.M.Mag),(.int .i64 a0.E)])),(1,(.live 26 [(.bool a1.M.Neg),(slK (kInt .u32) a1.M.Mag),(.int .i64 a1.E)]))])) ?_ ?_
 ·rintro y14
  dsimp only [r05_Cmp_j1]
  refine .g 1 rfl<|?_
  refine .cd rfl (fun _ _=>?_) fun _ _=>?_
  ·refine .g 7 rfl<|.fi rfl rfl
  ·refine .g 4 rfl<|?_
   refine .cut (fun x:Bool=>(r05_Cmp_j2 a0 a1 x,[eP 2 0,eP 3 1,eB 40 x],[(0,(.live 26 [(.bool a0.M.Neg),(slK (kInt .u32) a0.M.Mag),(.int .i64 a0.E)])),(1,(.live 26 [(.bool a1.M.Neg),(slK (kInt .u32) a1.M.Mag),(.int .i64 a1.E)]))])) ?_ ?_
   ·rintro y15
    dsimp only [r05_Cmp_j2]
    refine .g 1 rfl<|?_
    refine .cd rfl (fun _ _=>?_) fun _ _=>?_
    ·refine .g 6 rfl<|.p0 rfl rfl fun x16 _=>.g 5 rfl<|.fi rfl rfl
    ·refine .g 6 rfl<|.p0 rfl rfl fun x17 _=>.g 1 rfl<|.p0 rfl rfl fun x18 _=>.g 1 rfl<|.dn (by kernel_rfl)<|.g 1 rfl<|?_
     refine .cd rfl (fun _ _=>?_) fun _ _=>?_
     ·refine .g 4 rfl<|.p0 rfl rfl fun x19 _=>.g 1 rfl<|.p0 rfl rfl fun x20 _=>.g 5 rfl<|.dn (by kernel_rfl)<|.g 1 rfl<|?_
      refine .cd rfl (fun _ _=>?_) fun _ _=>?_
      ·refine .g 8 rfl<|.fi rfl rfl
      ·refine .g 9 rfl<|.fi rfl rfl
     ·refine .g 6 rfl<|.p0 rfl rfl fun x21 _=>.g 15 rfl<|.p0 rfl rfl fun x22 _=>.g 4 rfl<|.fi rfl rfl
   ·intro h21
    refine .g 9 rfl<|?_
    refine .gd 27 rfl (fun _=>?_) fun _=>?_
    ·refine .g 14 rfl<|.jw (h21 true) [(0,0),(1,1)] rfl
    ·refine .g 3 rfl<|.ln rfl rfl<|.g 3 rfl<|?_
     refine .gd 34 rfl (fun _=>?_) fun _=>?_
     ·refine .g 7 rfl<|.jw (h21 true) [(0,0),(1,1)] rfl
     ·refine .g 3 rfl<|.ln rfl rfl<|.g 3 rfl<|.jw (h21 ((a1.M.Mag.length:Int) == 0)) [(0,0),(1,1)] rfl
 ·intro h24
  refine .g 4 rfl<|?_
  refine .gd 16 rfl (fun _=>?_) fun _=>?_
  ·refine .g 4 rfl<|.jw (h24 true) [(0,0),(1,1)] rfl
  ·refine .g 4 rfl<|.jw (h24 (!x13)) [(0,0),(1,1)] rfl
instance r06_Right_i (a0:AI):PC (r06_Right a0) Tryz.prog 111 [(.agg (kI.enc a0))] (fun r=>(.bool r)):=pc func111 (by kernel_rfl) rfl fun E=>by
 unfold r06_Right
 refine .g 10 rfl<|.p0 rfl rfl fun x6 _=>.g 7 rfl<|.p0 rfl rfl fun x7 _=>.g 4 rfl<|?_
 refine .cut (fun x:Bool=>(r06_Right_j1 x,[eB 2 x],[])) ?_ ?_
 ·rintro y9
  dsimp only [r06_Right_j1]
  refine .g 2 rfl<|.fi rfl rfl
 ·intro h6
  refine .g 3 rfl<|?_
  refine .gd 12 rfl (fun _=>?_) fun _=>?_
  ·refine .g 3 rfl<|?_
   refine .gd 15 rfl (fun _=>?_) fun _=>?_
   ·refine .g 4 rfl<|.p0 rfl rfl fun x10 _=>.g 4 rfl<|.jw (h6 (decide (x10≤0))) [] rfl
   ·refine .g 9 rfl<|.jw (h6 false) [] rfl
  ·refine .g 12 rfl<|.jw (h6 false) [] rfl
instance r06_Has_i (a0:AI) (a1:AD):PC (r06_Has a0 a1) Tryz.prog 61 [(.agg (kI.enc a0)),(.agg (kD.enc a1))] (fun r=>(.bool r)):=pc func61 (by kernel_rfl) rfl fun E=>by
 unfold r06_Has
 refine .g 10 rfl<|.p0 rfl rfl fun x8 _=>.g 6 rfl<|.p0 rfl rfl fun x9 _=>.g 4 rfl<|?_
 refine .cut (fun x:Bool=>(r06_Has_j1 x,[eB 4 x],[])) ?_ ?_
 ·rintro y12
  dsimp only [r06_Has_j1]
  refine .g 2 rfl<|.fi rfl rfl
 ·intro h8
  refine .g 3 rfl<|?_
  refine .gd 12 rfl (fun _=>?_) fun _=>?_
  ·refine .g 3 rfl<|?_
   refine .gd 15 rfl (fun _=>?_) fun _=>?_
   ·refine .g 3 rfl<|.p0 rfl rfl fun x13 _=>.g 3 rfl<|?_
    refine .gd 22 rfl (fun _=>?_) fun _=>?_
    ·refine .g 3 rfl<|.p0 rfl rfl fun x14 _=>.g 4 rfl<|.jw (h8 (decide (x14≤0))) [] rfl
    ·refine .g 8 rfl<|.jw (h8 false) [] rfl
   ·refine .g 15 rfl<|.jw (h8 false) [] rfl
  ·refine .g 18 rfl<|.jw (h8 false) [] rfl
instance l09_examples_i:PC (l09_examples) Tryz.prog 15 [] (fun r=>(.bool r)):=pc func15 (by kernel_rfl) rfl fun E=>by
 unfold l09_examples
 refine .g 8 rfl<|.p0 rfl rfl fun x10 _=>.g 10 rfl<|.p0 rfl rfl fun x11 _=>.p0 rfl rfl fun x12 _=>.g 11 rfl<|.p0 rfl rfl fun x13 _=>.g 9 rfl<|?_
 refine .cut (fun x:Bool=>(l09_examples_j1 x,[eB 0 x],[])) ?_ ?_
 ·rintro y16
  dsimp only [l09_examples_j1]
  refine .g 2 rfl<|.fi rfl rfl
 ·intro h10
  refine .g 4 rfl<|?_
  refine .gd 24 rfl (fun _=>?_) fun _=>?_
  ·refine .g 4 rfl<|?_
   refine .gd 28 rfl (fun _=>?_) fun _=>?_
   ·refine .g 4 rfl<|?_
    refine .gd 32 rfl (fun _=>?_) fun _=>?_
    ·refine .g 1 rfl<|.p0 rfl rfl fun x17 _=>.p0 rfl rfl fun x18 _=>.g 2 rfl<|.dn (by kernel_rfl)<|.jw (h10 x18) [] rfl
    ·refine .g 5 rfl<|.dn (by kernel_rfl)<|.jw (h10 false) [] rfl
   ·refine .g 9 rfl<|.dn (by kernel_rfl)<|.jw (h10 false) [] rfl
  ·refine .g 13 rfl<|.dn (by kernel_rfl)<|.jw (h10 false) [] rfl
instance l09_cut_i (a0:AD) (a1:Int):PC (l09_cut a0 a1) Tryz.prog 16 [(.agg (kD.enc a0)),(.int .i64 a1)] (fun r=>(.agg (kD.enc (⟨((r).M),(r).E⟩:AD)))):=pc func16 (by kernel_rfl) rfl fun E=>by
 unfold l09_cut
 refine .g 17 rfl<|.ln rfl rfl<|.g 2 rfl<|.guard fun h1=>.sv (slK (kInt .u32) (a0.M.Mag.take ((mn (a0.M.Mag.length:Int) a1).toNat))) [] rfl (snd_sliceK (kInt .u32) _ _ _ _ _ _ 0 (mn (a0.M.Mag.length:Int) a1) rfl underlying22 si79 rfl rfl rfl rfl rfl h1) rfl<|.g 5 rfl<|.dn (by kernel_rfl)<|.g 2 rfl<|.fi rfl rfl
instance expo_both_8db6_i (a0:AI) (a1:Int):PC (expo_both_8db6 a0 a1) Tryz.prog 110 [(.agg (kI.enc a0)),(.int .i64 a1),(.fn 17 [] [])] (fun r=>(.tup [(.agg (kI.enc (⟨⟨(((r.1).Lo).M),((r.1).Lo).E⟩,⟨(((r.1).Hi).M),((r.1).Hi).E⟩⟩:AI))),(.int .i64 r.2)])):=pc func110 (by kernel_rfl) rfl fun E=>by
 unfold expo_both_8db6
 refine .g 9 rfl<|?_
 refine .cut (fun x:Bool=>(expo_both_8db6_j1 a0 a1 x,[eI 1 a1,(2,some (.fn 17 [] [])),eP 3 0,eP 6 1,eB 23 x],[(0,(.live 30 [(.bool a0.Lo.M.Neg),(slK (kInt .u32) a0.Lo.M.Mag),(.int .i64 a0.Lo.E),(.bool a0.Hi.M.Neg),(slK (kInt .u32) a0.Hi.M.Mag),(.int .i64 a0.Hi.E)])),(1,(.live 30 [(.bool false),(slK (kInt .u32) []),(.int .i64 0),(.bool false),(slK (kInt .u32) []),(.int .i64 0)]))])) ?_ ?_
 ·rintro y10
  dsimp only [expo_both_8db6_j1]
  refine .g 1 rfl<|?_
  refine .cd rfl (fun _ _=>?_) fun _ _=>?_
  ·refine .g 9 rfl<|.fi rfl rfl
  ·refine .g 8 rfl<|.p0 rfl rfl fun x11 _=>.g 15 rfl<|?_
   refine .cd rfl (fun _ _=>?_) fun _ _=>?_
   ·refine .g 10 rfl<|.fi rfl rfl
   ·refine .g 8 rfl<|.p0 rfl rfl fun x12 _=>.g 15 rfl<|?_
    refine .cd rfl (fun _ _=>?_) fun _ _=>?_
    ·refine .g 10 rfl<|.fi rfl rfl
    ·refine .g 14 rfl<|.fi rfl rfl
 ·intro h12
  refine .g 2 rfl<|.p0 rfl rfl fun x13 _=>.g 2 rfl<|?_
  refine .gd 14 rfl (fun _=>?_) fun _=>?_
  ·refine .g 10 rfl<|.jw (h12 true) [(0,0),(1,1)] rfl
  ·refine .g 5 rfl<|.st rfl (bs kD [a0.Lo,a0.Hi] rfl rfl) rfl<|.p0 rfl rfl fun x14 _=>.g 3 rfl<|.jw (h12 (!x14)) [(0,0),(1,1)] rfl
instance expo_ExpOf_i (a0:AI) (a1:Int):PC (expo_ExpOf a0 a1) Tryz.prog 39 [(.agg (kI.enc a0)),(.int .i64 a1)] (fun r=>(.tup [(.agg (kI.enc (⟨⟨(((r.1).Lo).M),((r.1).Lo).E⟩,⟨(((r.1).Hi).M),((r.1).Hi).E⟩⟩:AI))),(.int .i64 r.2)])):=pc func39 (by kernel_rfl) rfl fun E=>by
 unfold expo_ExpOf
 refine .g 11 rfl<|.p0 rfl rfl fun x2 _=>.g 7 rfl<|.fi rfl rfl
instance r09_Fits_i (a0:AD) (a1:Int):PC (r09_Fits a0 a1) Tryz.prog 67 [(.agg (kD.enc a0)),(.int .i64 a1)] (fun r=>(.bool r)):=pc func67 (by kernel_rfl) rfl fun E=>by
 unfold r09_Fits
 refine .g 9 rfl<|.p0 rfl rfl fun x5 _=>.g 4 rfl<|?_
 refine .cut (fun x:Bool=>(r09_Fits_j1 x,[eB 4 x],[])) ?_ ?_
 ·rintro y7
  dsimp only [r09_Fits_j1]
  refine .g 2 rfl<|.fi rfl rfl
 ·intro h6
  refine .g 3 rfl<|?_
  refine .gd 9 rfl (fun _=>?_) fun _=>?_
  ·refine .g 4 rfl<|?_
   refine .gd 13 rfl (fun _=>?_) fun _=>?_
   ·refine .g 4 rfl<|?_
    refine .gd 17 rfl (fun _=>?_) fun _=>?_
    ·refine .g 3 rfl<|.p0 rfl rfl fun x8 _=>.g 4 rfl<|.jw (h6 (decide (x8≤400))) [] rfl
    ·refine .g 8 rfl<|.jw (h6 false) [] rfl
   ·refine .g 12 rfl<|.jw (h6 false) [] rfl
  ·refine .g 16 rfl<|.jw (h6 false) [] rfl
instance r05_Size_i (a0:AD):PC (r05_Size a0) Tryz.prog 68 [(.agg (kD.enc a0))] (fun r=>(.tup [(.int .i64 r.1),(.bool r.2)])):=pc func68 (by kernel_rfl) rfl fun E=>by
 unfold r05_Size
 refine .g 10 rfl<|.p0 rfl rfl fun x4 _=>.g 5 rfl<|?_
 refine .cut (fun x:Bool=>(r05_Size_j1 a0 x,[eP 1 0,eB 15 x],[(0,(.live 26 [(.bool a0.M.Neg),(slK (kInt .u32) a0.M.Mag),(.int .i64 a0.E)]))])) ?_ ?_
 ·rintro y5
  dsimp only [r05_Size_j1]
  refine .g 1 rfl<|?_
  refine .cd rfl (fun _ _=>?_) fun _ _=>?_
  ·refine .g 8 rfl<|.fi rfl rfl
  ·refine .g 5 rfl<|.p0 rfl rfl fun x6 _=>.g 5 rfl<|.fi rfl rfl
 ·intro h6
  refine .g 4 rfl<|?_
  refine .gd 9 rfl (fun _=>?_) fun _=>?_
  ·refine .g 7 rfl<|.jw (h6 true) [(0,0)] rfl
  ·refine .g 3 rfl<|.ln rfl rfl<|.g 3 rfl<|.jw (h6 ((a0.M.Mag.length:Int) == 0)) [(0,0)] rfl
instance r06_New_i (a0:Int):CC (r06_New a0) Tryz.prog 69 [(.int .i64 a0)] [] (fun r=>(match r with | (Sum.inl y)=>.nilptr | (Sum.inr y)=>(.ptr 0 0))) (fun r=>(match r with | (Sum.inl y)=>[.dead] | (Sum.inr y)=>[(.live 83 [(.int .i64 y.1),(.int .i64 y.2)])])):=cc func69 (by kernel_rfl) rfl fun E=>by
 unfold r06_New
 refine .g 7 rfl<|?_
 refine .cut (fun x:Bool=>(r06_New_j1 a0 x,[eI 0 a0,eB 8 x],[])) ?_ ?_
 ·rintro y2
  dsimp only [r06_New_j1]
  refine .g 1 rfl<|?_
  refine .cd rfl (fun _ _=>?_) fun _ _=>?_
  ·refine .g 7 rfl<|.fi rfl rfl
  ·refine .g 11 rfl<|.fi rfl rfl
 ·intro h4
  refine .g 4 rfl<|?_
  refine .gd 5 rfl (fun _=>?_) fun _=>?_
  ·refine .g 4 rfl<|.jw (h4 true) [] rfl
  ·refine .g 4 rfl<|.jw (h4 (decide (a0>400))) [] rfl
theorem r06_New_k_0 {a0:Int} {r:Unit} (h:r06_New a0=some (Sum.inl r)):Cal Tryz.prog 69 [(.int .i64 a0)] [] .nilptr [.dead]:=CC.h h
theorem r06_New_k_1 {a0:Int} {r:Int × Int} (h:r06_New a0=some (Sum.inr r)):Cal Tryz.prog 69 [(.int .i64 a0)] [] (.ptr 0 0) [(.live 83 [(.int .i64 r.1),(.int .i64 r.2)])]:=CC.h h
instance r06_Cerr_i (a0:Int) (a1:Int) (a2:Int):CC (r06_Cerr a0 a1 a2) Tryz.prog 140 [(.ptr 0 0),(.int .i64 a0)] [(.live 83 [(.int .i64 a1),(.int .i64 a2)])] (fun r=>(.bool r.1)) (fun r=>[(.live 83 [(.int .i64 a1),(.int .i64 r.2)])]):=cc func140 (by kernel_rfl) rfl fun E=>by
 unfold r06_Cerr
 refine .g 15 rfl<|?_
 refine .cut (fun x:Int=>(r06_Cerr_j1 x,[eP 0 0],[(0,(.live 83 [(.int .i64 a1),(.int .i64 x)]))])) ?_ ?_
 ·rintro y2
  dsimp only [r06_Cerr_j1]
  refine .g 12 rfl<|.fi rfl rfl
 ·intro h3
  refine .cd rfl (fun _ _=>?_) fun _ _=>?_
  ·refine .g 7 rfl<|.jw (h3 a0) [(0,0)] rfl
  ·refine .g 1 rfl<|.jw (h3 a2) [(0,0)] rfl
instance r06_Carg_i (a0:List AI) (a1:Int) (a2:Int):CC (r06_Carg a0 a1 a2) Tryz.prog 139 [(.ptr 0 0),(slK kI a0)] [(.live 83 [(.int .i64 a1),(.int .i64 a2)])] (fun r=>(.bool r.1)) (fun r=>[(.live 83 [(.int .i64 a1),(.int .i64 r.2)])]):=cc func139 (by kernel_rfl) rfl fun E=>by
 unfold r06_Carg
 refine .g 11 rfl<|?_
 refine .cut (fun x:Unit=>(r06_Carg_j1 a2,[eP 0 0],[(0,(.live 83 [(.int .i64 a1),(.int .i64 a2)]))])) ?_ ?_
 ·rintro _
  dsimp only [r06_Carg_j1]
  refine .g 12 rfl<|.fi rfl rfl
 ·intro h37
  refine .g 1 rfl<|?_
  refine .lp (fun n (x:Int)=>r06_Carg_l2 a0 a1 a2 n x) (fun x=>([eP 0 0,eK kI 1 a0,eI 5 x],[(0,(.live 83 [(.int .i64 a1),(.int .i64 a2)]))])) 0 [(0,0)] rfl ?_
  rintro n2 y52
  try dsimp only
  rw [r06_Carg_l2]
  refine .g 5 rfl<|.ln rfl rfl<|.g 3 rfl<|?_
  refine .cd rfl (fun _ _=>?_) fun _ _=>?_
  ·refine .g 8 rfl<|.ix rfl rfl<|.g 1 rfl<|.p0 rfl rfl fun x55 _=>.g 9 rfl<|?_
   refine .cd rfl (fun _ _=>?_) fun _ _=>?_
   ·refine .g 3 rfl<|.bind fun x56 h73=>.st rfl (cl (CC.h h73) [0] [] [true] rfl (.p rfl<|.i<|.nil) (.p rfl (.i<|.i<|.nil) .nil) fnil (.cons (.v (.i<|.i<|.nil)) .nil) (.bool _) (.turned .nil) rfl) rfl<|.g 9 rfl<|.fi rfl rfl
   ·refine .g 8 rfl<|.ag (IntKind.i64.wrap (y52+1)) [(0,0)] rfl
  ·refine .g 4 rfl<|.jw (h37 ()) [(0,0)] rfl
instance r06_CPoint_i (a0:AD) (a1:Int) (a2:Int):CC (r06_CPoint a0 a1 a2) Tryz.prog 72 [(.ptr 0 0),(.agg (kD.enc a0))] [(.live 83 [(.int .i64 a1),(.int .i64 a2)])] (fun r=>(.agg (kI.enc (⟨⟨(((r.1).Lo).M),((r.1).Lo).E⟩,⟨(((r.1).Hi).M),((r.1).Hi).E⟩⟩:AI)))) (fun r=>[(.live 83 [(.int .i64 a1),(.int .i64 r.2)])]):=cc func72 (by kernel_rfl) rfl fun E=>by
 unfold r06_CPoint
 refine .g 13 rfl<|.st rfl (bs kI [(⟨a0,a0⟩:AI)] rfl rfl) rfl<|.bind fun x2 h1=>.st rfl (cl (CC.h h1) [0] [] [true] rfl (.p rfl<|.l<|.nil) (.p rfl (.i<|.i<|.nil) .nil) fnil (.cons (.v (.i<|.i<|.nil)) .nil) (.bool _) (.turned .nil) rfl) rfl<|.g 3 rfl<|?_
 refine .cd rfl (fun _ _=>?_) fun _ _=>?_
 ·refine .g 8 rfl<|.fi rfl rfl
 ·refine .g 11 rfl<|.fi rfl rfl
instance r05_inRange_i (a0:AD):PC (r05_inRange a0) Tryz.prog 159 [(.agg (kD.enc a0))] (fun r=>(.bool r)):=pc func159 (by kernel_rfl) rfl fun E=>by
 unfold r05_inRange
 refine .g 12 rfl<|.ln rfl rfl<|.g 3 rfl<|?_
 refine .cd rfl (fun _ _=>?_) fun _ _=>?_
 ·refine .g 7 rfl<|.fi rfl rfl
 ·refine .g 5 rfl<|.p0 rfl rfl fun x5 _=>.g 4 rfl<|?_
  refine .cut (fun x:Bool=>(r05_inRange_j1 x,[eB 2 x],[])) ?_ ?_
  ·rintro y7
   dsimp only [r05_inRange_j1]
   refine .g 2 rfl<|.fi rfl rfl
  ·intro h9
   refine .g 4 rfl<|?_
   refine .gd 13 rfl (fun _=>?_) fun _=>?_
   ·refine .g 4 rfl<|?_
    refine .gd 17 rfl (fun _=>?_) fun _=>?_
    ·refine .g 5 rfl<|?_
     refine .gd 22 rfl (fun _=>?_) fun _=>?_
     ·refine .g 5 rfl<|?_
      refine .gd 27 rfl (fun _=>?_) fun _=>?_
      ·refine .g 3 rfl<|.p0 rfl rfl fun x8 _=>.g 4 rfl<|.jw (h9 (decide (x8≤262144))) [] rfl
      ·refine .g 8 rfl<|.jw (h9 false) [] rfl
     ·refine .g 13 rfl<|.jw (h9 false) [] rfl
    ·refine .g 18 rfl<|.jw (h9 false) [] rfl
   ·refine .g 22 rfl<|.jw (h9 false) [] rfl
instance r05_told_i (a0:AD):PC (r05_told a0) Tryz.prog 153 [(.agg (kD.enc a0))] (fun r=>(.tup [(.agg (kD.enc (⟨((r.1).M),(r.1).E⟩:AD))),(.int .i64 r.2)])):=pc func153 (by kernel_rfl) rfl fun E=>by
 unfold r05_told
 refine .g 10 rfl<|.p0 rfl rfl fun x2 _=>.g 10 rfl<|?_
 refine .cd rfl (fun _ _=>?_) fun _ _=>?_
 ·refine .g 9 rfl<|.fi rfl rfl
 ·refine .g 10 rfl<|.fi rfl rfl
instance r05_Scale_i (a0:AD) (a1:Int):PC (r05_Scale a0 a1) Tryz.prog 79 [(.agg (kD.enc a0)),(.int .i64 a1)] (fun r=>(.tup [(.agg (kD.enc (⟨((r.1).M),(r.1).E⟩:AD))),(.int .i64 r.2)])):=pc func79 (by kernel_rfl) rfl fun E=>by
 unfold r05_Scale
 refine .g 10 rfl<|.p0 rfl rfl fun x4 _=>.g 10 rfl<|?_
 refine .cd rfl (fun _ _=>?_) fun _ _=>?_
 ·refine .g 9 rfl<|.fi rfl rfl
 ·refine .g 4 rfl<|?_
  refine .cut (fun x:Bool=>(r05_Scale_j1 a0 a1 x,[eI 1 a1,eP 2 0,eP 4 1,eB 17 x],[(0,(.live 26 [(.bool a0.M.Neg),(slK (kInt .u32) a0.M.Mag),(.int .i64 a0.E)])),(1,(.live 26 [(.bool false),(slK (kInt .u32) []),(.int .i64 0)]))])) ?_ ?_
  ·rintro y5
   dsimp only [r05_Scale_j1]
   refine .g 1 rfl<|?_
   refine .cd rfl (fun _ _=>?_) fun _ _=>?_
   ·refine .g 9 rfl<|.fi rfl rfl
   ·refine .g 8 rfl<|.ln rfl rfl<|.g 3 rfl<|?_
    refine .cd rfl (fun _ _=>?_) fun _ _=>?_
    ·refine .g 9 rfl<|.fi rfl rfl
    ·refine .g 11 rfl<|.p0 rfl rfl fun x6 _=>.g 7 rfl<|.fi rfl rfl
  ·intro h10
   refine .g 4 rfl<|?_
   refine .gd 14 rfl (fun _=>?_) fun _=>?_
   ·refine .g 4 rfl<|.jw (h10 true) [(0,0),(1,1)] rfl
   ·refine .g 4 rfl<|.jw (h10 (decide (a1>100000))) [(0,0),(1,1)] rfl
instance r06_Cout_i (a0:AD) (a1:AD) (a2:Int) (a3:Int):CC (r06_Cout a0 a1 a2 a3) Tryz.prog 141 [(.ptr 0 0),(.agg (kD.enc a0)),(.agg (kD.enc a1))] [(.live 83 [(.int .i64 a2),(.int .i64 a3)])] (fun r=>(.agg (kI.enc (⟨⟨(((r).Lo).M),((r).Lo).E⟩,⟨(((r).Hi).M),((r).Hi).E⟩⟩:AI)))) (fun r=>[(.live 83 [(.int .i64 a2),(.int .i64 a3)])]):=cc func141 (by kernel_rfl) rfl fun E=>by
 unfold r06_Cout
 refine .g 17 rfl<|?_
 refine .cd rfl (fun _ _=>?_) fun _ _=>?_
 ·refine .g 8 rfl<|.fi rfl rfl
 ·refine .g 11 rfl<|.fi rfl rfl
instance r06_CScale_i (a0:AI) (a1:Int) (a2:Int) (a3:Int):CC (r06_CScale a0 a1 a2 a3) Tryz.prog 71 [(.ptr 0 0),(.agg (kI.enc a0)),(.int .i64 a1)] [(.live 83 [(.int .i64 a2),(.int .i64 a3)])] (fun r=>(.agg (kI.enc (⟨⟨(((r.1).Lo).M),((r.1).Lo).E⟩,⟨(((r.1).Hi).M),((r.1).Hi).E⟩⟩:AI)))) (fun r=>[(.live 83 [(.int .i64 a2),(.int .i64 r.2)])]):=cc func71 (by kernel_rfl) rfl fun E=>by
 unfold r06_CScale
 refine .g 11 rfl<|.st rfl (bs kI [a0] rfl rfl) rfl<|.bind fun x7 h1=>.st rfl (cl (CC.h h1) [0] [] [true] rfl (.p rfl<|.l<|.nil) (.p rfl (.i<|.i<|.nil) .nil) fnil (.cons (.v (.i<|.i<|.nil)) .nil) (.bool _) (.turned .nil) rfl) rfl<|.g 3 rfl<|?_
 refine .cd rfl (fun _ _=>?_) fun _ _=>?_
 ·refine .g 8 rfl<|.fi rfl rfl
 ·refine .g 7 rfl<|.p0 rfl rfl fun x8 _=>.g 13 rfl<|.bind fun x9 h5=>.st rfl (cl (CC.h h5) [0] [] [true] rfl (.p rfl<|.i<|.nil) (.p rfl (.i<|.i<|.nil) .nil) fnil (.cons (.v (.i<|.i<|.nil)) .nil) (.bool _) (.turned .nil) rfl) rfl<|.g 3 rfl<|?_
  refine .cd rfl (fun _ _=>?_) fun _ _=>?_
  ·refine .g 8 rfl<|.fi rfl rfl
  ·refine .g 7 rfl<|.p0 rfl rfl fun x10 _=>.g 12 rfl<|.bind fun x11 h9=>.st rfl (cl (CC.h h9) [0] [] [true] rfl (.p rfl<|.i<|.nil) (.p rfl (.i<|.i<|.nil) .nil) fnil (.cons (.v (.i<|.i<|.nil)) .nil) (.bool _) (.turned .nil) rfl) rfl<|.g 7 rfl<|.bind fun x12 h10=>.st rfl (cl (CC.h h10) [0] [] [false] rfl (.p rfl<|.a kD<|.a kD<|.nil) (.p rfl (.i<|.i<|.nil) .nil) fnil (.cons (.v (.i<|.i<|.nil)) .nil) (ren_agg (K:=kI) _) (.kept rfl .nil) rfl) rfl<|.g 4 rfl<|.fi rfl rfl
instance r05_Make_i (a0:ApiInt) (a1:Int):PC (r05_Make a0 a1) Tryz.prog 87 [(.agg (kN.enc a0)),(.int .i64 a1)] (fun r=>(.tup [(.agg (kD.enc (⟨((r.1).M),(r.1).E⟩:AD))),(.bool r.2)])):=pc func87 (by kernel_rfl) rfl fun E=>by
 unfold r05_Make
 refine .g 9 rfl<|?_
 refine .cut (fun x:Bool=>(r05_Make_j1 a0 a1 x,[eI 1 a1,eP 2 0,eP 4 1,eB 13 x],[(0,(.live 24 [(.bool a0.Neg),(slK (kInt .u32) a0.Mag)])),(1,(.live 26 [(.bool false),(slK (kInt .u32) []),(.int .i64 0)]))])) ?_ ?_
 ·rintro y4
  dsimp only [r05_Make_j1]
  refine .g 1 rfl<|?_
  refine .cd rfl (fun _ _=>?_) fun _ _=>?_
  ·refine .g 9 rfl<|.fi rfl rfl
  ·refine .g 6 rfl<|.p0 rfl rfl fun x5 _=>.g 7 rfl<|.p0 rfl rfl fun x6 _=>.g 10 rfl<|?_
   refine .cd rfl (fun _ _=>?_) fun _ _=>?_
   ·refine .g 9 rfl<|.fi rfl rfl
   ·refine .g 10 rfl<|.fi rfl rfl
 ·intro h8
  refine .g 4 rfl<|?_
  refine .gd 10 rfl (fun _=>?_) fun _=>?_
  ·refine .g 4 rfl<|.jw (h8 true) [(0,0),(1,1)] rfl
  ·refine .g 4 rfl<|.jw (h8 (decide (a1>100000))) [(0,0),(1,1)] rfl
instance r05_Half_i (a0:Int):PC (r05_Half a0) Tryz.prog 117 [(.int .i64 a0)] (fun r=>(.agg (kD.enc (⟨((r).M),(r).E⟩:AD)))):=pc func117 (by kernel_rfl) rfl fun E=>by
 unfold r05_Half
 refine .g 7 rfl<|.p0 rfl rfl fun x3 _=>.g 1 rfl<|.p0 rfl rfl fun x4 _=>.g 15 rfl<|.fi rfl rfl
instance r04_Neg_i (a0:ApiInt):PC (r04_Neg a0) Tryz.prog 225 [(.agg (kN.enc a0))] (fun r=>(.agg (kN.enc (r)))):=pc func225 (by kernel_rfl) rfl fun E=>by
 unfold r04_Neg
 refine .g 13 rfl<|.p0 rfl rfl fun x2 _=>.g 4 rfl<|.fi rfl rfl
instance r05_Neg_i (a0:AD):PC (r05_Neg a0) Tryz.prog 196 [(.agg (kD.enc a0))] (fun r=>(.agg (kD.enc (⟨((r).M),(r).E⟩:AD)))):=pc func196 (by kernel_rfl) rfl fun E=>by
 unfold r05_Neg
 refine .g 9 rfl<|.p0 rfl rfl fun x3 _=>.g 10 rfl<|?_
 refine .cd rfl (fun _ _=>?_) fun _ _=>?_
 ·refine .g 8 rfl<|.fi rfl rfl
 ·refine .g 6 rfl<|.p0 rfl rfl fun x4 _=>.g 4 rfl<|.dn (by kernel_rfl)<|.g 2 rfl<|.fi rfl rfl
instance r06_In_i (a0:AI) (a1:AI):PC (r06_In a0 a1) Tryz.prog 195 [(.agg (kI.enc a0)),(.agg (kI.enc a1))] (fun r=>(.bool r)):=pc func195 (by kernel_rfl) rfl fun E=>by
 unfold r06_In
 refine .g 10 rfl<|.p0 rfl rfl fun x7 _=>.g 4 rfl<|?_
 refine .cut (fun x:Bool=>(r06_In_j1 x,[eB 4 x],[])) ?_ ?_
 ·rintro y10
  dsimp only [r06_In_j1]
  refine .g 2 rfl<|.fi rfl rfl
 ·intro h6
  refine .g 3 rfl<|?_
  refine .gd 9 rfl (fun _=>?_) fun _=>?_
  ·refine .g 3 rfl<|.p0 rfl rfl fun x11 _=>.g 2 rfl<|?_
   refine .gd 15 rfl (fun _=>?_) fun _=>?_
   ·refine .g 3 rfl<|.p0 rfl rfl fun x12 _=>.g 3 rfl<|.jw (h6 x12) [] rfl
   ·refine .g 7 rfl<|.jw (h6 false) [] rfl
  ·refine .g 13 rfl<|.jw (h6 false) [] rfl
instance r07_fits_i (a0:AI) (a1:Int) (a2:Int) (a3:Int):CC (r07_fits a0 a1 a2 a3) Tryz.prog 136 [(.ptr 0 0),(.agg (kI.enc a0)),(.int .i64 a1)] [(.live 83 [(.int .i64 a2),(.int .i64 a3)])] (fun r=>(.bool r.1)) (fun r=>[(.live 83 [(.int .i64 a2),(.int .i64 r.2)])]):=cc func136 (by kernel_rfl) rfl fun E=>by
 unfold r07_fits
 refine .g 16 rfl<|?_
 refine .cd rfl (fun _ _=>?_) fun _ _=>?_
 ·refine .g 7 rfl<|.fi rfl rfl
 ·refine .g 5 rfl<|.p0 rfl rfl fun x5 _=>.g 10 rfl<|?_
  refine .cd rfl (fun _ _=>?_) fun _ _=>?_
  ·refine .g 15 rfl<|.fi rfl rfl
  ·refine .g 5 rfl<|.p0 rfl rfl fun x6 _=>.g 9 rfl<|.p0 rfl rfl fun x7 _=>.g 2 rfl<|.p0 rfl rfl fun x8 _=>.g 1 rfl<|.dn (by kernel_rfl)<|.g 1 rfl<|?_
   refine .cd rfl (fun _ _=>?_) fun _ _=>?_
   ·refine .g 15 rfl<|.fi rfl rfl
   ·refine .g 8 rfl<|.fi rfl rfl
instance r06_CInt_i (a0:Int) (a1:Int) (a2:Int):CC (r06_CInt a0 a1 a2) Tryz.prog 83 [(.ptr 0 0),(.int .i64 a0)] [(.live 83 [(.int .i64 a1),(.int .i64 a2)])] (fun r=>(.agg (kI.enc (⟨⟨(((r.1).Lo).M),((r.1).Lo).E⟩,⟨(((r.1).Hi).M),((r.1).Hi).E⟩⟩:AI)))) (fun r=>[(.live 83 [(.int .i64 a1),(.int .i64 r.2)])]):=cc func83 (by kernel_rfl) rfl fun E=>by
 unfold r06_CInt
 refine .g 9 rfl<|.p0 rfl rfl fun x3 _=>.bind fun x4 h2=>.st rfl (cl (CC.h h2) [0] [] [true] rfl (.p rfl<|.a kD<|.nil) (.p rfl (.i<|.i<|.nil) .nil) fnil (.cons (.v (.i<|.i<|.nil)) .nil) (ren_agg (K:=kI) _) (.turned .nil) rfl) rfl<|.g 4 rfl<|.fi rfl rfl
instance r07_Terms_i (a0:Int):PC (r07_Terms a0) Tryz.prog 137 [(.int .i64 a0)] (fun r=>(.int .i64 r)):=pc func137 (by kernel_rfl) rfl fun E=>by
 unfold r07_Terms
 refine .g 16 rfl<|.fi rfl rfl
instance r01_Mul_i (a0:List Int) (a1:List Int):PC (r01_Mul a0 a1) Tryz.prog 226 [(slK (kInt .u32) a0),(slK (kInt .u32) a1)] (fun r=>(slK (kInt .u32) r)):=pc func226 (by kernel_rfl) rfl fun E=>by
 unfold r01_Mul
 refine .g 2 rfl<|.st rfl (as0 rfl) rfl<|.g 5 rfl<|.ln rfl rfl<|.g 1 rfl<|.ln rfl rfl<|.g 1 rfl<|.guard fun h1=>.sv (.row 0 (kInt .u32).sz 0 (((List.replicate ((IntKind.i64.wrap ((a0.length:Int)+(a1.length:Int))).toNat) (kInt .u32).z)).length)) [(0,(rwK (kInt .u32) 79 (List.replicate ((IntKind.i64.wrap ((a0.length:Int)+(a1.length:Int))).toNat) (kInt .u32).z)))] rfl (snd_makeK (kInt .u32) _ _ _ _ _ 0 _ _ _ rfl underlying22 ze79 sb79 (by decide) rfl rfl rfl rfl rfl h1) rfl<|.g 9 rfl<|?_
 refine .cut (fun x:(List Int)=>(r01_Mul_j1 x,[(5,some (.row 0 (kInt .u32).sz 0 ((x).length)))],[(0,(rwK (kInt .u32) 79 x))])) ?_ ?_
 ·rintro y276
  dsimp only [r01_Mul_j1]
  refine .g 2 rfl<|?_
  refine .weak ?_ (fun a w h=>Conc.freezeK (kInt .u32) h 5 0 0 ((y276).length) 79 y276 rfl rfl (by omega))
  refine .weak ?_ (fun a w h=>take_all h)
  refine .g 2 rfl<|.p0 rfl rfl fun x277 _=>.g 4 rfl<|.fi rfl rfl
 ·intro h375
  refine .g 1 rfl<|?_
  refine .lp (fun n (x:Int × (List Int))=>r01_Mul_l2 a0 a1 n x.1 x.2) (fun x=>([eL 0 a0,eL 1 a1,(5,some (.row 0 (kInt .u32).sz 0 ((x.2).length))),eI 6 x.1],[(0,(rwK (kInt .u32) 79 x.2))])) (0,(List.replicate ((IntKind.i64.wrap ((a0.length:Int)+(a1.length:Int))).toNat) (kInt .u32).z)) [(0,0)] rfl ?_
  rintro n2 ⟨y338,y339⟩
  try dsimp only
  rw [r01_Mul_l2]
  refine .g 5 rfl<|.ln rfl rfl<|.g 3 rfl<|?_
  refine .cd rfl (fun _ _=>?_) fun _ _=>?_
  ·refine .g 3 rfl<|?_
   refine .cut (fun x:(List Int)=>(r01_Mul_j3 (fun z0 z1=>r01_Mul_l2 a0 a1 n2 z0 z1) y338 x,[eL 0 a0,eL 1 a1,(5,some (.row 0 (kInt .u32).sz 0 ((x).length))),eI 6 y338],[(0,(rwK (kInt .u32) 79 x))])) ?_ ?_
   ·rintro y354
    dsimp only [r01_Mul_j3]
    refine .g 6 rfl<|.ag ((IntKind.i64.wrap (y338+1)),y354) [(0,0)] rfl
   ·intro h687
    refine .g 12 rfl<|?_
    refine .cut (fun x:Int × (List Int)=>(r01_Mul_j4 y338 a1 (fun z0 z1=>r01_Mul_l2 a0 a1 n2 z0 z1) x.1 x.2,[eL 0 a0,eL 1 a1,(5,some (.row 0 (kInt .u32).sz 0 ((x.2).length))),eI 6 y338,eX 7 x.1],[(0,(rwK (kInt .u32) 79 x.2))])) ?_ ?_
    ·rintro ⟨y361,y362⟩
     dsimp only [r01_Mul_j4]
     refine .g 5 rfl<|.ln rfl rfl<|.g 3 rfl<|.guard fun h718=>?_
     obtain ⟨h7181,h7182⟩:=h718
     refine .sv (.rptr 0 (kInt .u32).sz ((IntKind.i64.wrap (y338+(a1.length:Int))).toNat) 0) [] rfl (idx_r (snd_index_r _ _ _ _ _ 0 0 ((y362).length) _ (IntKind.i64.wrap (y338+(a1.length:Int))) rfl underlying22 si79 rfl rfl rfl rfl h7181 (by omega)) (Nat.zero_add _)) rfl<|.sm [(0,(rwK (kInt .u32) 79 ((y362).set ((IntKind.i64.wrap (y338+(a1.length:Int))).toNat) (IntKind.u32.wrap y361))))] rfl (snd_storeK_sca (kInt .u32) _ _ _ 0 ((IntKind.i64.wrap (y338+(a1.length:Int))).toNat) _ _ (IntKind.u32.wrap y361) _ rfl rfl rfl sc79 rfl rfl rfl rfl rfl rfl (by first | omega | (simp only [List.length_set]; omega))) rfl<|?_
     refine .weak ?_ (fun a w h=>Conc.relen h 5 ((((y362).set ((IntKind.i64.wrap (y338+(a1.length:Int))).toNat) (IntKind.u32.wrap y361))).length) rfl List.length_set.symm)
     refine .g 2 rfl<|.jw (h687 ((y362).set ((IntKind.i64.wrap (y338+(a1.length:Int))).toNat) (IntKind.u32.wrap y361))) [(0,0)] rfl
    ·intro h719
     refine .g 1 rfl<|?_
     refine .lp (fun n (x:Int × Int × (List Int))=>r01_Mul_l5 a1 y338 a0 (fun z0 z1=>r01_Mul_l2 a0 a1 n2 z0 z1) n x.1 x.2.1 x.2.2) (fun x=>([eL 0 a0,eL 1 a1,(5,some (.row 0 (kInt .u32).sz 0 ((x.2.2).length))),eI 6 y338,eX 7 x.1,eI 8 x.2.1],[(0,(rwK (kInt .u32) 79 x.2.2))])) (0,0,y339) [(0,0)] rfl ?_
     rintro n5 ⟨y366,y367,y368⟩
     try dsimp only
     rw [r01_Mul_l5]
     refine .g 5 rfl<|.ln rfl rfl<|.g 3 rfl<|?_
     refine .cd rfl (fun _ _=>?_) fun _ _=>?_
     ·refine .g 8 rfl<|.ix rfl rfl<|.g 4 rfl<|.ix rfl rfl<|.g 7 rfl<|.guard fun h748=>?_
      obtain ⟨h7481,h7482⟩:=h748
      refine .sv (.rptr 0 (kInt .u32).sz ((IntKind.i64.wrap (y338+y367)).toNat) 0) [] rfl (idx_r (snd_index_r _ _ _ _ _ 0 0 ((y368).length) _ (IntKind.i64.wrap (y338+y367)) rfl underlying22 si79 rfl rfl rfl rfl h7481 (by omega)) (Nat.zero_add _)) rfl<|.sv (.int .u32 ((y368).getD ((IntKind.i64.wrap (y338+y367)).toNat) (kInt .u32).z)) [] rfl (snd_loadK_sca (kInt .u32) _ _ 0 ((IntKind.i64.wrap (y338+y367)).toNat) 0 _ _ rfl sc79 rfl rfl rfl rfl (by first | omega | (simp only [List.length_set]; omega)) (by decide)) rfl<|.g 5 rfl<|.dn (by kernel_rfl)<|.g 9 rfl<|.guard fun h749=>?_
      obtain ⟨h7491,h7492⟩:=h749
      refine .sv (.rptr 0 (kInt .u32).sz ((IntKind.i64.wrap (y338+y367)).toNat) 0) [] rfl (idx_r (snd_index_r _ _ _ _ _ 0 0 ((y368).length) _ (IntKind.i64.wrap (y338+y367)) rfl underlying22 si79 rfl rfl rfl rfl h7491 (by omega)) (Nat.zero_add _)) rfl<|.sm [(0,(rwK (kInt .u32) 79 ((y368).set ((IntKind.i64.wrap (y338+y367)).toNat) (IntKind.u32.wrap (IntKind.u64.wrap ((IntKind.u64.wrap ((IntKind.u64.wrap ((IntKind.u64.wrap (a0.getD y338.toNat (kInt .u32).z))*(IntKind.u64.wrap (a1.getD y367.toNat (kInt .u32).z))))+(IntKind.u64.wrap ((y368).getD ((IntKind.i64.wrap (y338+y367)).toNat) (kInt .u32).z))))+y366))))))] rfl (snd_storeK_sca (kInt .u32) _ _ _ 0 ((IntKind.i64.wrap (y338+y367)).toNat) _ _ (IntKind.u32.wrap (IntKind.u64.wrap ((IntKind.u64.wrap ((IntKind.u64.wrap ((IntKind.u64.wrap (a0.getD y338.toNat (kInt .u32).z))*(IntKind.u64.wrap (a1.getD y367.toNat (kInt .u32).z))))+(IntKind.u64.wrap ((y368).getD ((IntKind.i64.wrap (y338+y367)).toNat) (kInt .u32).z))))+y366))) _ rfl rfl rfl sc79 rfl rfl rfl rfl rfl rfl (by first | omega | (simp only [List.length_set]; omega))) rfl<|?_
      refine .weak ?_ (fun a w h=>Conc.relen h 5 ((((y368).set ((IntKind.i64.wrap (y338+y367)).toNat) (IntKind.u32.wrap (IntKind.u64.wrap ((IntKind.u64.wrap ((IntKind.u64.wrap ((IntKind.u64.wrap (a0.getD y338.toNat (kInt .u32).z))*(IntKind.u64.wrap (a1.getD y367.toNat (kInt .u32).z))))+(IntKind.u64.wrap ((y368).getD ((IntKind.i64.wrap (y338+y367)).toNat) (kInt .u32).z))))+y366))))).length) rfl List.length_set.symm)
      refine .g 14 rfl<|.ag ((shrI .u64 (IntKind.u64.wrap ((IntKind.u64.wrap ((IntKind.u64.wrap ((IntKind.u64.wrap (a0.getD y338.toNat (kInt .u32).z))*(IntKind.u64.wrap (a1.getD y367.toNat (kInt .u32).z))))+(IntKind.u64.wrap ((y368).getD ((IntKind.i64.wrap (y338+y367)).toNat) (kInt .u32).z))))+y366)) 32),(IntKind.i64.wrap (y367+1)),((y368).set ((IntKind.i64.wrap (y338+y367)).toNat) (IntKind.u32.wrap (IntKind.u64.wrap ((IntKind.u64.wrap ((IntKind.u64.wrap ((IntKind.u64.wrap (a0.getD y338.toNat (kInt .u32).z))*(IntKind.u64.wrap (a1.getD y367.toNat (kInt .u32).z))))+(IntKind.u64.wrap ((y368).getD ((IntKind.i64.wrap (y338+y367)).toNat) (kInt .u32).z))))+y366))))) [(0,0)] rfl
     ·refine .g 4 rfl<|.jw (h719 (y366,y368)) [(0,0)] rfl
  ·refine .g 4 rfl<|.jw (h375 y339) [(0,0)] rfl
instance r04_Mul_i (a0:ApiInt) (a1:ApiInt):PC (r04_Mul a0 a1) Tryz.prog 198 [(.agg (kN.enc a0)),(.agg (kN.enc a1))] (fun r=>(.agg (kN.enc (r)))):=pc func198 (by kernel_rfl) rfl fun E=>by
 unfold r04_Mul
 refine .g 18 rfl<|.p0 rfl rfl fun x3 _=>.p0 rfl rfl fun x4 _=>.g 1 rfl<|.dn (by kernel_rfl)<|.g 2 rfl<|.fi rfl rfl
instance r05_Mul_i (a0:AD) (a1:AD):PC (r05_Mul a0 a1) Tryz.prog 142 [(.agg (kD.enc a0)),(.agg (kD.enc a1))] (fun r=>(.tup [(.agg (kD.enc (⟨((r.1).M),(r.1).E⟩:AD))),(.int .i64 r.2)])):=pc func142 (by kernel_rfl) rfl fun E=>by
 unfold r05_Mul
 refine .g 11 rfl<|.p0 rfl rfl fun x7 _=>.g 6 rfl<|.p0 rfl rfl fun x8 _=>.g 5 rfl<|?_
 refine .cut (fun x:Bool=>(r05_Mul_j1 a0 a1 x,[eP 2 0,eP 3 1,eP 4 2,eB 17 x],[(0,(.live 26 [(.bool a0.M.Neg),(slK (kInt .u32) a0.M.Mag),(.int .i64 a0.E)])),(1,(.live 26 [(.bool a1.M.Neg),(slK (kInt .u32) a1.M.Mag),(.int .i64 a1.E)])),(2,(.live 26 [(.bool false),(slK (kInt .u32) []),(.int .i64 0)]))])) ?_ ?_
 ·rintro y9
  dsimp only [r05_Mul_j1]
  refine .g 1 rfl<|?_
  refine .cd rfl (fun _ _=>?_) fun _ _=>?_
  ·refine .g 9 rfl<|.fi rfl rfl
  ·refine .g 8 rfl<|.p0 rfl rfl fun x10 _=>.g 5 rfl<|.p0 rfl rfl fun x11 _=>.p0 rfl rfl fun x12 _=>.g 4 rfl<|.dn (by kernel_rfl)<|.g 2 rfl<|.fi rfl rfl
 ·intro h9
  refine .g 4 rfl<|?_
  refine .gd 14 rfl (fun _=>?_) fun _=>?_
  ·refine .g 4 rfl<|.jw (h9 true) [(0,0),(1,1),(2,2)] rfl
  ·refine .g 4 rfl<|.jw (h9 (!x8)) [(0,0),(1,1),(2,2)] rfl
instance r06_least_i (a0:List AD):PC (r06_least a0) Tryz.prog 144 [(slK kD a0)] (fun r=>(.agg (kD.enc (⟨((r).M),(r).E⟩:AD)))):=pc func144 (by kernel_rfl) rfl fun E=>by
 unfold r06_least
 refine .g 8 rfl<|.ix rfl rfl<|.g 11 rfl<|?_
 refine .cut (fun x:Bool × (List Int) × Int=>(r06_least_j1 x.1 x.2.1 x.2.2,[eP 2 0,eP 3 1],[(0,(.live 26 [(.bool false),(slK (kInt .u32) []),(.int .i64 0)])),(1,(.live 26 [(.bool x.1),(slK (kInt .u32) x.2.1),(.int .i64 x.2.2)]))])) ?_ ?_
 ·rintro ⟨y100,y101,y102⟩
  dsimp only [r06_least_j1]
  refine .g 8 rfl<|.fi rfl rfl
 ·intro h56
  refine .g 1 rfl<|?_
  refine .lp (fun n (x:Int × Bool × (List Int) × Int)=>r06_least_l2 a0 n x.1 x.2.1 x.2.2.1 x.2.2.2) (fun x=>([eK kD 0 a0,eP 2 0,eP 3 1,eI 4 x.1],[(0,(.live 26 [(.bool false),(slK (kInt .u32) []),(.int .i64 0)])),(1,(.live 26 [(.bool x.2.1),(slK (kInt .u32) x.2.2.1),(.int .i64 x.2.2.2)]))])) (1,((a0.getD 0 zAD).M).Neg,((a0.getD 0 zAD).M).Mag,(a0.getD 0 zAD).E) [(0,0),(1,1)] rfl ?_
  rintro n2 ⟨y123,y124,y125,y126⟩
  try dsimp only
  rw [r06_least_l2]
  refine .g 5 rfl<|.ln rfl rfl<|.g 3 rfl<|?_
  refine .cd rfl (fun _ _=>?_) fun _ _=>?_
  ·refine .g 8 rfl<|.ix rfl rfl<|.g 2 rfl<|.p0 rfl rfl fun x131 _=>.g 1 rfl<|.dn (by kernel_rfl)<|.g 1 rfl<|?_
   refine .cut (fun x:Bool × (List Int) × Int=>(r06_least_j3 (fun z0 z1 z2 z3=>r06_least_l2 a0 n2 z0 z1 z2 z3) y123 x.1 x.2.1 x.2.2,[eK kD 0 a0,eP 2 0,eP 3 1,eI 4 y123],[(0,(.live 26 [(.bool false),(slK (kInt .u32) []),(.int .i64 0)])),(1,(.live 26 [(.bool x.1),(slK (kInt .u32) x.2.1),(.int .i64 x.2.2)]))])) ?_ ?_
   ·rintro ⟨y132,y133,y134⟩
    dsimp only [r06_least_j3]
    refine .g 7 rfl<|.ag ((IntKind.i64.wrap (y123+1)),y132,y133,y134) [(0,0),(1,1)] rfl
   ·intro h108
    refine .cd rfl (fun _ _=>?_) fun _ _=>?_
    ·refine .g 3 rfl<|.ix rfl rfl<|.g 3 rfl<|.jw (h108 (((a0.getD y123.toNat zAD).M).Neg,((a0.getD y123.toNat zAD).M).Mag,(a0.getD y123.toNat zAD).E)) [(0,0),(1,1)] rfl
    ·refine .g 1 rfl<|.jw (h108 (y124,y125,y126)) [(0,0),(1,1)] rfl
  ·refine .g 4 rfl<|.jw (h56 (y124,y125,y126)) [(0,0),(1,1)] rfl
instance r05_prec_i (a0:Int):PC (r05_prec a0) Tryz.prog 206 [(.int .i64 a0)] (fun r=>(.bool r)):=pc func206 (by kernel_rfl) rfl fun E=>by
 unfold r05_prec
 refine .g 6 rfl<|?_
 refine .cut (fun x:Bool=>(r05_prec_j1 x,[eB 2 x],[])) ?_ ?_
 ·rintro y2
  dsimp only [r05_prec_j1]
  refine .g 2 rfl<|.fi rfl rfl
 ·intro h2
  refine .g 4 rfl<|?_
  refine .gd 5 rfl (fun _=>?_) fun _=>?_
  ·refine .g 5 rfl<|.jw (h2 (decide (a0≤400))) [] rfl
  ·refine .g 5 rfl<|.jw (h2 false) [] rfl
instance r01_Add_i (a0:List Int) (a1:List Int):PC (r01_Add a0 a1) Tryz.prog 217 [(slK (kInt .u32) a0),(slK (kInt .u32) a1)] (fun r=>(slK (kInt .u32) r)):=pc func217 (by kernel_rfl) rfl fun E=>by
 unfold r01_Add
 refine .g 21 rfl<|?_
 refine .cut (fun x:(List Int)=>(r01_Add_j1 x,[(5,some (grA (kInt .u32) 0 x))],[(0,(grV (kInt .u32) 79 x))])) ?_ ?_
 ·rintro y57
  dsimp only [r01_Add_j1]
  refine .g 2 rfl<|?_
  refine .weak ?_ (fun a w h=>Conc.gr_still (kInt .u32) h 5 0 79 y57 rfl rfl)
  refine .g 2 rfl<|.p0 rfl rfl fun x58 _=>.g 4 rfl<|.fi rfl rfl
 ·intro h26
  refine .g 1 rfl<|?_
  refine .weak ?_ (fun a w h=>Conc.gr_nil (kInt .u32) h 5 0 79 rfl)
  refine .lo (fun n (x:Int × Int × (List Int))=>r01_Add_l2 a0 a1 n x.1 x.2.1 x.2.2) (fun x=>([eL 0 a0,eL 1 a1,(5,some (grA (kInt .u32) 0 x.2.2)),eX 6 x.1,eI 7 x.2.1],[(0,(grV (kInt .u32) 79 x.2.2))])) (0,0,[]) rfl (fun hE=>jn (m:=0) [(0,0)] hE (.l rfl<|.l rfl<|.g rfl (ren_gr (K:=(kInt .u32)) (by rfl) [])<|.i rfl<|.i rfl<|.nil) (.cons (.refl _) (renV_gr (K:=(kInt .u32)) 79 [])<|.nil) rfl) ?_
  rintro n2 ⟨y70,y71,y72⟩
  try dsimp only
  rw [r01_Add_l2]
  refine .g 5 rfl<|.ln rfl rfl<|.g 1 rfl<|.ln rfl rfl<|.g 5 rfl<|?_
  refine .cd rfl (fun _ _=>?_) fun _ _=>?_
  ·refine .g 8 rfl<|.p0 rfl rfl fun x75 _=>.g 2 rfl<|.p0 rfl rfl fun x76 _=>.g 11 rfl<|.st rfl (bs (kInt .u32) [(IntKind.u32.wrap (IntKind.u64.wrap ((IntKind.u64.wrap (x75+x76))+y70)))] rfl rfl) rfl<|.guard fun h50=>.sv (.row 1 (kInt .u32).sz 0 (((y72++[(IntKind.u32.wrap (IntKind.u64.wrap ((IntKind.u64.wrap (x75+x76))+y70)))])).length)) [(1,(rwK (kInt .u32) 79 (y72++[(IntKind.u32.wrap (IntKind.u64.wrap ((IntKind.u64.wrap (x75+x76))+y70)))]))),(0,.dead)] rfl (snd_appendK_gr (kInt .u32) _ _ _ _ _ 0 1 y72 [(IntKind.u32.wrap (IntKind.u64.wrap ((IntKind.u64.wrap (x75+x76))+y70)))] rfl underlying22 ze79 sb79 rfl rfl rfl rfl rfl rfl rfl h50) rfl<|.g 15 rfl<|?_
   refine .weak ?_ (fun a w h=>Conc.gr_row (kInt .u32) h 5 1 79 (y72++[(IntKind.u32.wrap (IntKind.u64.wrap ((IntKind.u64.wrap (x75+x76))+y70)))]) rfl rfl (by first | omega | (simp only [List.length_append,List.length_cons,List.length_set]; omega) | simp))
   exact .ao ((shrI .u64 (IntKind.u64.wrap ((IntKind.u64.wrap (x75+x76))+y70)) 32),(IntKind.i64.wrap (y71+1)),(y72++[(IntKind.u32.wrap (IntKind.u64.wrap ((IntKind.u64.wrap (x75+x76))+y70)))])) rfl fun hE=>jn (m:=0) [(1,0)] hE (.l rfl<|.l rfl<|.g rfl (ren_gr (K:=(kInt .u32)) (by rfl) (y72++[(IntKind.u32.wrap (IntKind.u64.wrap ((IntKind.u64.wrap (x75+x76))+y70)))]))<|.i rfl<|.i rfl<|.nil) (.cons (.refl _) (renV_gr (K:=(kInt .u32)) 79 (y72++[(IntKind.u32.wrap (IntKind.u64.wrap ((IntKind.u64.wrap (x75+x76))+y70)))]))<|.nil) rfl
  ·refine .g 4 rfl<|.jo (h26 y72) rfl fun hE=>jn (m:=0) [(0,0)] hE (.g rfl (ren_gr (K:=(kInt .u32)) (by rfl) y72)<|.nil) (.cons (.refl _) (renV_gr (K:=(kInt .u32)) 79 y72)<|.nil) rfl
instance r05_cut_i (a0:Bool) (a1:List Int) (a2:Int) (a3:Bool) (a4:Int) (a5:Bool):PC (r05_cut a0 a1 a2 a3 a4 a5) Tryz.prog 209 [(.bool a0),(slK (kInt .u32) a1),(.int .i64 a2),(.bool a3),(.int .i64 a4),(.bool a5)] (fun r=>(.agg (kD.enc (⟨((r).M),(r).E⟩:AD)))):=pc func209 (by kernel_rfl) rfl fun E=>by
 unfold r05_cut
 refine .g 8 rfl<|.p0 rfl rfl fun x20 _=>.g 12 rfl<|?_
 refine .cut (fun x:(List Int) × Int × Bool=>(r05_cut_j1 a0 a5 x.1 x.2.1 x.2.2,[eB 0 a0,eL 1 x.1,eI 2 x.2.1,eB 3 x.2.2,eB 5 a5,eP 12 0],[(0,(.live 26 [(.bool false),(slK (kInt .u32) []),(.int .i64 0)]))])) ?_ ?_
 ·rintro ⟨y26,y27,y28⟩
  dsimp only [r05_cut_j1]
  refine .g 3 rfl<|?_
  refine .cut (fun x:Bool=>(r05_cut_j2 y26 a0 y27 x,[eB 0 a0,eL 1 y26,eI 2 y27,eP 12 0,eB 46 x],[(0,(.live 26 [(.bool false),(slK (kInt .u32) []),(.int .i64 0)]))])) ?_ ?_
  ·rintro y29
   dsimp only [r05_cut_j2]
   refine .g 1 rfl<|?_
   refine .cut (fun x:(List Int)=>(r05_cut_j3 a0 y27 x,[eB 0 a0,eL 1 x,eI 2 y27,eP 12 0],[(0,(.live 26 [(.bool false),(slK (kInt .u32) []),(.int .i64 0)]))])) ?_ ?_
   ·rintro y31
    dsimp only [r05_cut_j3]
    refine .g 7 rfl<|.p0 rfl rfl fun x32 _=>.g 4 rfl<|.fi rfl rfl
   ·intro h15
    refine .cd rfl (fun _ _=>?_) fun _ _=>?_
    ·refine .g 2 rfl<|.st rfl (bs (kInt .u32) [1] rfl rfl) rfl<|.p0 rfl rfl fun x33 _=>.g 2 rfl<|.jw (h15 x33) [(0,0)] rfl
    ·refine .g 1 rfl<|.jw (h15 y26) [(0,0)] rfl
  ·intro h19
   refine .g 3 rfl<|?_
   refine .gd 44 rfl (fun _=>?_) fun _=>?_
   ·refine .g 3 rfl<|.jw (h19 a5) [(0,0)] rfl
   ·refine .g 3 rfl<|.jw (h19 false) [(0,0)] rfl
 ·intro h21
  refine .cd rfl (fun _ _=>?_) fun _ _=>?_
  ·refine .g 4 rfl<|.p0 rfl rfl fun x34 _=>.g 7 rfl<|.p0 rfl rfl fun x35 _=>.g 8 rfl<|?_
   refine .cut (fun x:Bool=>(r05_cut_j4 a0 a5 x34 a2 x20 a4 x,[eB 0 a0,eI 2 a2,eB 3 x,eB 5 a5,eP 12 0,eI 13 (IntKind.i64.wrap (x20-a4)),eL 14 x34],[(0,(.live 26 [(.bool false),(slK (kInt .u32) []),(.int .i64 0)]))])) ?_ ?_
   ·rintro y37
    dsimp only [r05_cut_j4]
    refine .g 13 rfl<|.jw (h21 (x34,(IntKind.i64.wrap (a2+(IntKind.i64.wrap (x20-a4)))),y37)) [(0,0)] rfl
   ·intro h28
    refine .g 3 rfl<|?_
    refine .gd 33 rfl (fun _=>?_) fun _=>?_
    ·refine .g 7 rfl<|.jw (h28 true) [(0,0)] rfl
    ·refine .g 2 rfl<|.p0 rfl rfl fun x38 _=>.g 4 rfl<|.jw (h28 (x38 != 0)) [(0,0)] rfl
  ·refine .g 1 rfl<|.jw (h21 (a1,a2,a3)) [(0,0)] rfl
instance r05_Round_i (a0:AD) (a1:Int) (a2:Bool):PC (r05_Round a0 a1 a2) Tryz.prog 199 [(.agg (kD.enc a0)),(.int .i64 a1),(.bool a2)] (fun r=>(.tup [(.agg (kD.enc (⟨((r.1).M),(r.1).E⟩:AD))),(.int .i64 r.2)])):=pc func199 (by kernel_rfl) rfl fun E=>by
 unfold r05_Round
 refine .g 10 rfl<|.p0 rfl rfl fun x7 _=>.g 5 rfl<|?_
 refine .cut (fun x:Bool=>(r05_Round_j1 a0 a1 a2 x,[eI 1 a1,eB 2 a2,eP 3 0,eP 6 1,eB 17 x],[(0,(.live 26 [(.bool a0.M.Neg),(slK (kInt .u32) a0.M.Mag),(.int .i64 a0.E)])),(1,(.live 26 [(.bool false),(slK (kInt .u32) []),(.int .i64 0)]))])) ?_ ?_
 ·rintro y9
  dsimp only [r05_Round_j1]
  refine .g 1 rfl<|?_
  refine .cd rfl (fun _ _=>?_) fun _ _=>?_
  ·refine .g 9 rfl<|.fi rfl rfl
  ·refine .g 18 rfl<|.p0 rfl rfl fun x10 _=>.p0 rfl rfl fun x11 _=>.g 7 rfl<|.fi rfl rfl
 ·intro h8
  refine .g 4 rfl<|?_
  refine .gd 13 rfl (fun _=>?_) fun _=>?_
  ·refine .g 5 rfl<|.jw (h8 true) [(0,0),(1,1)] rfl
  ·refine .g 1 rfl<|.p0 rfl rfl fun x12 _=>.g 3 rfl<|.jw (h8 (!x12)) [(0,0),(1,1)] rfl
instance r06_Cround_i (a0:AD) (a1:Bool) (a2:Int) (a3:Int):CC (r06_Cround a0 a1 a2 a3) Tryz.prog 143 [(.ptr 0 0),(.agg (kD.enc a0)),(.bool a1)] [(.live 83 [(.int .i64 a2),(.int .i64 a3)])] (fun r=>(.agg (kD.enc (⟨((r.1).M),(r.1).E⟩:AD)))) (fun r=>[(.live 83 [(.int .i64 a2),(.int .i64 r.2)])]):=cc func143 (by kernel_rfl) rfl fun E=>by
 unfold r06_Cround
 refine .g 16 rfl<|?_
 refine .cd rfl (fun _ _=>?_) fun _ _=>?_
 ·refine .g 8 rfl<|.fi rfl rfl
 ·refine .g 10 rfl<|.p0 rfl rfl fun x3 _=>.g 6 rfl<|.dn (by kernel_rfl)<|.g 5 rfl<|.bind fun x4 h4=>.st rfl (cl (CC.h h4) [0] [] [true] rfl (.p rfl<|.i<|.nil) (.p rfl (.i<|.i<|.nil) .nil) fnil (.cons (.v (.i<|.i<|.nil)) .nil) (.bool _) (.turned .nil) rfl) rfl<|.g 9 rfl<|.fi rfl rfl
instance r06_greatest_i (a0:List AD):PC (r06_greatest a0) Tryz.prog 145 [(slK kD a0)] (fun r=>(.agg (kD.enc (⟨((r).M),(r).E⟩:AD)))):=pc func145 (by kernel_rfl) rfl fun E=>by
 unfold r06_greatest
 refine .g 8 rfl<|.ix rfl rfl<|.g 11 rfl<|?_
 refine .cut (fun x:Bool × (List Int) × Int=>(r06_greatest_j1 x.1 x.2.1 x.2.2,[eP 2 0,eP 3 1],[(0,(.live 26 [(.bool false),(slK (kInt .u32) []),(.int .i64 0)])),(1,(.live 26 [(.bool x.1),(slK (kInt .u32) x.2.1),(.int .i64 x.2.2)]))])) ?_ ?_
 ·rintro ⟨y100,y101,y102⟩
  dsimp only [r06_greatest_j1]
  refine .g 8 rfl<|.fi rfl rfl
 ·intro h56
  refine .g 1 rfl<|?_
  refine .lp (fun n (x:Int × Bool × (List Int) × Int)=>r06_greatest_l2 a0 n x.1 x.2.1 x.2.2.1 x.2.2.2) (fun x=>([eK kD 0 a0,eP 2 0,eP 3 1,eI 4 x.1],[(0,(.live 26 [(.bool false),(slK (kInt .u32) []),(.int .i64 0)])),(1,(.live 26 [(.bool x.2.1),(slK (kInt .u32) x.2.2.1),(.int .i64 x.2.2.2)]))])) (1,((a0.getD 0 zAD).M).Neg,((a0.getD 0 zAD).M).Mag,(a0.getD 0 zAD).E) [(0,0),(1,1)] rfl ?_
  rintro n2 ⟨y123,y124,y125,y126⟩
  try dsimp only
  rw [r06_greatest_l2]
  refine .g 5 rfl<|.ln rfl rfl<|.g 3 rfl<|?_
  refine .cd rfl (fun _ _=>?_) fun _ _=>?_
  ·refine .g 8 rfl<|.ix rfl rfl<|.g 2 rfl<|.p0 rfl rfl fun x131 _=>.g 1 rfl<|.dn (by kernel_rfl)<|.g 1 rfl<|?_
   refine .cut (fun x:Bool × (List Int) × Int=>(r06_greatest_j3 (fun z0 z1 z2 z3=>r06_greatest_l2 a0 n2 z0 z1 z2 z3) y123 x.1 x.2.1 x.2.2,[eK kD 0 a0,eP 2 0,eP 3 1,eI 4 y123],[(0,(.live 26 [(.bool false),(slK (kInt .u32) []),(.int .i64 0)])),(1,(.live 26 [(.bool x.1),(slK (kInt .u32) x.2.1),(.int .i64 x.2.2)]))])) ?_ ?_
   ·rintro ⟨y132,y133,y134⟩
    dsimp only [r06_greatest_j3]
    refine .g 7 rfl<|.ag ((IntKind.i64.wrap (y123+1)),y132,y133,y134) [(0,0),(1,1)] rfl
   ·intro h108
    refine .cd rfl (fun _ _=>?_) fun _ _=>?_
    ·refine .g 3 rfl<|.ix rfl rfl<|.g 3 rfl<|.jw (h108 (((a0.getD y123.toNat zAD).M).Neg,((a0.getD y123.toNat zAD).M).Mag,(a0.getD y123.toNat zAD).E)) [(0,0),(1,1)] rfl
    ·refine .g 1 rfl<|.jw (h108 (y124,y125,y126)) [(0,0),(1,1)] rfl
  ·refine .g 4 rfl<|.jw (h56 (y124,y125,y126)) [(0,0),(1,1)] rfl
end Go.Proofs.YtjfcghliglfapaaGreat.Gen
