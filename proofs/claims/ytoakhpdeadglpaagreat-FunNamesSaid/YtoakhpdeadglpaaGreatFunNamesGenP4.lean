/- Printed by geng.py: a call does what the plain function says. -/
import Derived.Test.YtoakhpdeadglpaaGreatFunNamesGenP3
set_option linter.unusedVariables false
set_option linter.unusedSimpArgs false
set_option maxRecDepth 4000
set_option synthInstance.maxSize 4000
set_option synthInstance.maxHeartbeats 400000
namespace Go.Proofs.YtoakhpdeadglpaaGreat.Gen
open Go Go.Abs Go.Proofs Go.Proofs.Tryz
instance r05_norm_i (a0:ApiInt) (a1:Int):PC (r05_norm a0 a1) Tryz.prog 127 [(.agg (kN.enc a0)),(.int .i64 a1)] (fun r=>(.agg (kD.enc (⟨((r).M),(r).E⟩:AD)))):=pc func127 (by kernel_rfl) rfl fun E=>by
 unfold r05_norm
 refine .g 12 rfl<|.p0 rfl rfl fun x15 _=>.g 9 rfl<|.ln rfl rfl<|.g 3 rfl<|?_
 refine .cd rfl (fun _ _=>?_) fun _ _=>?_
 ·refine .g 8 rfl<|.fi rfl rfl
 ·refine .g 8 rfl<|?_
  refine .cut (fun x:Int=>(r05_norm_j1 x15 a1 x,[eI 1 a1,eP 4 1,eP 5 2,eI 6 x],[(1,(.live 26 [(.bool false),(slK (kInt .u32) []),(.int .i64 0)])),(2,(.live 24 [(.bool ((x15).Neg)),(slK (kInt .u32) ((x15).Mag))]))])) ?_ ?_
  ·rintro y21
   dsimp only [r05_norm_j1]
   refine .g 8 rfl<|.p0 rfl rfl fun x22 _=>.p0 rfl rfl fun x23 _=>.g 5 rfl<|.dn (by kernel_rfl)<|.g 2 rfl<|.fi rfl rfl
  ·intro h15
   refine .g 1 rfl<|?_
   refine .lp (fun n (x:Int)=>r05_norm_l2 x15 a1 n x) (fun x=>([eI 1 a1,eP 4 1,eP 5 2,eI 6 x],[(1,(.live 26 [(.bool false),(slK (kInt .u32) []),(.int .i64 0)])),(2,(.live 24 [(.bool ((x15).Neg)),(slK (kInt .u32) ((x15).Mag))]))])) 0 [(1,1),(2,2)] rfl ?_
   rintro n2 y27
   try dsimp only
   rw [r05_norm_l2]
   refine .g 6 rfl<|.p0 rfl rfl fun x28 _=>.g 3 rfl<|?_
   refine .cd rfl (fun _ _=>?_) fun _ _=>?_
   ·refine .g 9 rfl<|.ag (IntKind.i64.wrap (y27+1)) [(1,1),(2,2)] rfl
   ·refine .g 4 rfl<|.jw (h15 y27) [(1,1),(2,2)] rfl
instance r05_From_i (a0:Int):PC (r05_From a0) Tryz.prog 63 [(.int .i64 a0)] (fun r=>(.agg (kD.enc (⟨((r).M),(r).E⟩:AD)))):=pc func63 (by kernel_rfl) rfl fun E=>by
 unfold r05_From
 refine .g 8 rfl<|.p0 rfl rfl fun x3 _=>.p0 rfl rfl fun x4 _=>.g 4 rfl<|.fi rfl rfl
instance r04_Right_i (a0:ApiInt):PC (r04_Right a0) Tryz.prog 228 [(.agg (kN.enc a0))] (fun r=>(.bool r)):=pc func228 (by kernel_rfl) rfl fun E=>by
 unfold r04_Right
 refine .g 10 rfl<|.ln rfl rfl<|.g 4 rfl<|?_
 refine .cut (fun x:Bool=>(r04_Right_j1 x,[eB 2 x],[])) ?_ ?_
 ·rintro y2
  dsimp only [r04_Right_j1]
  refine .g 2 rfl<|.fi rfl rfl
 ·intro h7
  refine .g 4 rfl<|?_
  refine .gd 9 rfl (fun _=>?_) fun _=>?_
  ·refine .g 5 rfl<|?_
   refine .gd 14 rfl (fun _=>?_) fun _=>?_
   ·refine .g 14 rfl<|.jw (h7 true) [] rfl
   ·refine .g 3 rfl<|?_
    refine .gd 17 rfl (fun _=>?_) fun _=>?_
    ·refine .g 4 rfl<|.ix rfl rfl<|.g 6 rfl<|.jw (h7 ((a0.Mag.getD ((IntKind.i64.wrap ((a0.Mag.length:Int)-1)).toNat) (kInt .u32).z) != 0)) [] rfl
    ·refine .g 11 rfl<|.jw (h7 false) [] rfl
  ·refine .g 8 rfl<|?_
   refine .gd 17 rfl (fun _=>?_) fun _=>?_
   ·refine .g 4 rfl<|.ix rfl rfl<|.g 6 rfl<|.jw (h7 ((a0.Mag.getD ((IntKind.i64.wrap ((a0.Mag.length:Int)-1)).toNat) (kInt .u32).z) != 0)) [] rfl
   ·refine .g 11 rfl<|.jw (h7 false) [] rfl
instance r05_Right_i (a0:AD):PC (r05_Right a0) Tryz.prog 146 [(.agg (kD.enc a0))] (fun r=>(.bool r)):=pc func146 (by kernel_rfl) rfl fun E=>by
 unfold r05_Right
 refine .g 10 rfl<|.p0 rfl rfl fun x3 _=>.g 10 rfl<|?_
 refine .cd rfl (fun _ _=>?_) fun _ _=>?_
 ·refine .g 7 rfl<|.fi rfl rfl
 ·refine .g 8 rfl<|.ln rfl rfl<|.g 3 rfl<|?_
  refine .cd rfl (fun _ _=>?_) fun _ _=>?_
  ·refine .g 10 rfl<|.fi rfl rfl
  ·refine .g 3 rfl<|?_
   refine .cut (fun x:Bool=>(r05_Right_j1 x,[eB 2 x],[])) ?_ ?_
   ·rintro y4
    dsimp only [r05_Right_j1]
    refine .g 2 rfl<|.fi rfl rfl
   ·intro h9
    refine .g 4 rfl<|.ix rfl rfl<|.g 4 rfl<|?_
    refine .gd 24 rfl (fun _=>?_) fun _=>?_
    ·refine .g 5 rfl<|?_
     refine .gd 29 rfl (fun _=>?_) fun _=>?_
     ·refine .g 6 rfl<|.jw (h9 (decide (a0.E≤131072))) [] rfl
     ·refine .g 6 rfl<|.jw (h9 false) [] rfl
    ·refine .g 11 rfl<|.jw (h9 false) [] rfl
instance r01_Cmp_i (a0:List Int) (a1:List Int):PC (r01_Cmp a0 a1) Tryz.prog 265 [(slK (kInt .u32) a0),(slK (kInt .u32) a1)] (fun r=>(.int .i64 r)):=pc func265 (by kernel_rfl) rfl fun E=>by
 unfold r01_Cmp
 refine .g 9 rfl<|.ln rfl rfl<|.g 1 rfl<|.ln rfl rfl<|.g 5 rfl<|?_
 refine .cut (fun x:Unit=>(r01_Cmp_j1,[],[])) ?_ ?_
 ·rintro _
  dsimp only [r01_Cmp_j1]
  refine .g 7 rfl<|.fi rfl rfl
 ·intro h55
  refine .g 1 rfl<|?_
  refine .lp (fun n (x:Int)=>r01_Cmp_l2 a0 a1 n x) (fun x=>([eL 0 a0,eL 1 a1,eI 5 x],[])) (IntKind.i64.wrap ((mx (a0.length:Int) (a1.length:Int))-1)) [] rfl ?_
  rintro n2 y96
  try dsimp only
  rw [r01_Cmp_l2]
  refine .g 7 rfl<|?_
  refine .cd rfl (fun _ _=>?_) fun _ _=>?_
  ·refine .g 9 rfl<|.p0 rfl rfl fun x101 _=>.g 2 rfl<|.p0 rfl rfl fun x102 _=>.g 3 rfl<|?_
   refine .cd rfl (fun _ _=>?_) fun _ _=>?_
   ·refine .g 12 rfl<|.fi rfl rfl
   ·refine .g 6 rfl<|.p0 rfl rfl fun x103 _=>.g 2 rfl<|.p0 rfl rfl fun x104 _=>.g 3 rfl<|?_
    refine .cd rfl (fun _ _=>?_) fun _ _=>?_
    ·refine .g 11 rfl<|.fi rfl rfl
    ·refine .g 8 rfl<|.ag (IntKind.i64.wrap (y96-1)) [] rfl
  ·refine .g 4 rfl<|.jw (h55 ()) [] rfl
instance r04_Cmp_i (a0:ApiInt) (a1:ApiInt):PC (r04_Cmp a0 a1) Tryz.prog 168 [(.agg (kN.enc a0)),(.agg (kN.enc a1))] (fun r=>(.int .i64 r)):=pc func168 (by kernel_rfl) rfl fun E=>by
 unfold r04_Cmp
 refine .g 13 rfl<|.p0 rfl rfl fun x10 _=>.g 10 rfl<|.p0 rfl rfl fun x11 _=>.g 7 rfl<|?_
 refine .cut (fun x:Bool=>(r04_Cmp_j1 x10 x11 x,[eP 5 2,eP 6 3,eB 17 x],[(2,(.live 24 [(.bool ((x10).Neg)),(slK (kInt .u32) ((x10).Mag))])),(3,(.live 24 [(.bool ((x11).Neg)),(slK (kInt .u32) ((x11).Mag))]))])) ?_ ?_
 ·rintro y15
  dsimp only [r04_Cmp_j1]
  refine .g 1 rfl<|?_
  refine .cd rfl (fun _ _=>?_) fun _ _=>?_
  ·refine .g 8 rfl<|.fi rfl rfl
  ·refine .g 1 rfl<|?_
   refine .cut (fun x:Bool=>(r04_Cmp_j2 x10 x11 x,[eP 5 2,eP 6 3,eB 25 x],[(2,(.live 24 [(.bool ((x10).Neg)),(slK (kInt .u32) ((x10).Mag))])),(3,(.live 24 [(.bool ((x11).Neg)),(slK (kInt .u32) ((x11).Mag))]))])) ?_ ?_
   ·rintro y16
    dsimp only [r04_Cmp_j2]
    refine .g 1 rfl<|?_
    refine .cd rfl (fun _ _=>?_) fun _ _=>?_
    ·refine .g 8 rfl<|.fi rfl rfl
    ·refine .g 7 rfl<|?_
     refine .cd rfl (fun _ _=>?_) fun _ _=>?_
     ·refine .g 6 rfl<|.p0 rfl rfl fun x17 _=>.g 6 rfl<|.fi rfl rfl
     ·refine .g 9 rfl<|.p0 rfl rfl fun x18 _=>.g 4 rfl<|.fi rfl rfl
   ·intro h24
    refine .g 5 rfl<|?_
    refine .gd 29 rfl (fun _=>?_) fun _=>?_
    ·refine .g 5 rfl<|.jw (h24 (x11).Neg) [(2,2),(3,3)] rfl
    ·refine .g 5 rfl<|.jw (h24 false) [(2,2),(3,3)] rfl
 ·intro h26
  refine .g 4 rfl<|?_
  refine .gd 20 rfl (fun _=>?_) fun _=>?_
  ·refine .g 6 rfl<|.jw (h26 (!((x11).Neg))) [(2,2),(3,3)] rfl
  ·refine .g 6 rfl<|.jw (h26 false) [(2,2),(3,3)] rfl
instance r01_Bits_i (a0:List Int):PC (r01_Bits a0) Tryz.prog 166 [(slK (kInt .u32) a0)] (fun r=>(.int .i64 r)):=pc func166 (by kernel_rfl) rfl fun E=>by
 unfold r01_Bits
 refine .g 8 rfl<|.p0 rfl rfl fun x11 _=>.g 7 rfl<|.ln rfl rfl<|.g 3 rfl<|?_
 refine .cd rfl (fun _ _=>?_) fun _ _=>?_
 ·refine .g 7 rfl<|.fi rfl rfl
 ·refine .g 5 rfl<|.ln rfl rfl<|.g 10 rfl<|.ln rfl rfl<|.g 1 rfl<|.ix rfl rfl<|.g 4 rfl<|?_
  refine .cut (fun x:Int=>(r01_Bits_j1 x,[eI 4 x],[])) ?_ ?_
  ·rintro y16
   dsimp only [r01_Bits_j1]
   refine .g 8 rfl<|.fi rfl rfl
  ·intro h11
   refine .g 1 rfl<|?_
   refine .lp (fun n (x:Int × Int)=>r01_Bits_l2 n x.1 x.2) (fun x=>([eI 4 x.1,eW 5 x.2],[])) ((IntKind.i64.wrap (32*(IntKind.i64.wrap ((x11.length:Int)-1)))),(x11.getD ((IntKind.i64.wrap ((x11.length:Int)-1)).toNat) (kInt .u32).z)) [] rfl ?_
   rintro n2 ⟨y19,y20⟩
   try dsimp only
   rw [r01_Bits_l2]
   refine .g 7 rfl<|?_
   refine .cd rfl (fun _ _=>?_) fun _ _=>?_
   ·refine .g 16 rfl<|.ag ((IntKind.i64.wrap (y19+1)),(shrI .u32 y20 1)) [] rfl
   ·refine .g 4 rfl<|.jw (h11 y19) [] rfl
instance r05_size_i (a0:AD):PC (r05_size a0) Tryz.prog 167 [(.agg (kD.enc a0))] (fun r=>(.int .i64 r)):=pc func167 (by kernel_rfl) rfl fun E=>by
 unfold r05_size
 refine .g 13 rfl<|.p0 rfl rfl fun x2 _=>.g 2 rfl<|.dn (by kernel_rfl)<|.g 2 rfl<|.fi rfl rfl
instance r01_Shl_i (a0:List Int) (a1:Int):PC (r01_Shl a0 a1) Tryz.prog 323 [(slK (kInt .u32) a0),(.int .i64 a1)] (fun r=>(.tup [(slK (kInt .u32) r.1),(.bool r.2)])):=pc func323 (by kernel_rfl) rfl fun E=>by
 unfold r01_Shl
 refine .g 8 rfl<|?_
 refine .cut (fun x:Bool=>(r01_Shl_j1 a1 a0 x,[eL 0 a0,eI 1 a1,eB 15 x],[])) ?_ ?_
 ·rintro y17
  dsimp only [r01_Shl_j1]
  refine .g 1 rfl<|?_
  refine .cd rfl (fun _ _=>?_) fun _ _=>?_
  ·refine .g 8 rfl<|.fj rfl rfl (by exact .tup (.cons AVle.nil (.cons (AVle.refl _) .nil)))
  ·refine .g 6 rfl<|.guard fun h4=>.sv (.row 0 (kInt .u32).sz 0 (((List.replicate ((IntKind.i64.wrap (a1.tdiv 32)).toNat) (kInt .u32).z)).length)) [(0,(rwK (kInt .u32) 117 (List.replicate ((IntKind.i64.wrap (a1.tdiv 32)).toNat) (kInt .u32).z)))] rfl (snd_makeK (kInt .u32) _ _ _ _ _ 0 _ _ _ rfl underlying22 ze117 sb117 (by decide) rfl rfl rfl rfl rfl h4) rfl<|.g 14 rfl<|?_
   refine .cut (fun x:Int × (List Int)=>(r01_Shl_j2 x.1 x.2,[(6,some (.row 0 (kInt .u32).sz 0 ((x.2).length))),eX 7 x.1],[(0,(rwK (kInt .u32) 117 x.2))])) ?_ ?_
   ·rintro ⟨y24,y25⟩
    dsimp only [r01_Shl_j2]
    refine .g 6 rfl<|.st rfl (bs (kInt .u32) [(IntKind.u32.wrap y24)] rfl rfl) rfl<|.guard fun h29=>.sv (.row 1 (kInt .u32).sz 0 (((y25++[(IntKind.u32.wrap y24)])).length)) [(1,(rwK (kInt .u32) 117 (y25++[(IntKind.u32.wrap y24)]))),(0,.dead)] rfl (snd_appendK (kInt .u32) _ _ _ _ _ 0 1 y25 [(IntKind.u32.wrap y24)] rfl underlying22 ze117 sb117 rfl rfl rfl rfl rfl rfl h29) rfl<|?_
    refine .weak ?_ (fun a w h=>Conc.freezeK (kInt .u32) h 46 1 0 (((y25++[(IntKind.u32.wrap y24)])).length) 117 (y25++[(IntKind.u32.wrap y24)]) rfl rfl (by omega))
    refine .weak ?_ (fun a w h=>take_all h)
    refine .p0 rfl rfl fun x26 _=>.g 5 rfl<|.fi rfl rfl
   ·intro h31
    refine .g 1 rfl<|?_
    refine .lp (fun n (x:Int × Int × (List Int))=>r01_Shl_l3 a0 a1 n x.1 x.2.1 x.2.2) (fun x=>([eL 0 a0,eI 1 a1,(6,some (.row 0 (kInt .u32).sz 0 ((x.2.2).length))),eX 7 x.1,eI 8 x.2.1],[(0,(rwK (kInt .u32) 117 x.2.2))])) (0,0,(List.replicate ((IntKind.i64.wrap (a1.tdiv 32)).toNat) (kInt .u32).z)) [(0,0)] rfl ?_
    rintro n3 ⟨y30,y31,y32⟩
    try dsimp only
    rw [r01_Shl_l3]
    refine .g 5 rfl<|.ln rfl rfl<|.g 3 rfl<|?_
    refine .cd rfl (fun _ _=>?_) fun _ _=>?_
    ·refine .g 8 rfl<|.ix rfl rfl<|.g 4 rfl<|.guard fun h54=>.st rfl (snd_shl _ _ _ _ _ _ _ _ rfl rfl rfl rfl rfl h54) rfl<|.g 10 rfl<|.st rfl (bs (kInt .u32) [(IntKind.u32.wrap (orI .u64 (shlI .u64 (IntKind.u64.wrap (a0.getD y31.toNat (kInt .u32).z)) (a1.tmod 32)) y30))] rfl rfl) rfl<|.guard fun h55=>.sv (.row 1 (kInt .u32).sz 0 (((y32++[(IntKind.u32.wrap (orI .u64 (shlI .u64 (IntKind.u64.wrap (a0.getD y31.toNat (kInt .u32).z)) (a1.tmod 32)) y30))])).length)) [(1,(rwK (kInt .u32) 117 (y32++[(IntKind.u32.wrap (orI .u64 (shlI .u64 (IntKind.u64.wrap (a0.getD y31.toNat (kInt .u32).z)) (a1.tmod 32)) y30))]))),(0,.dead)] rfl (snd_appendK (kInt .u32) _ _ _ _ _ 0 1 y32 [(IntKind.u32.wrap (orI .u64 (shlI .u64 (IntKind.u64.wrap (a0.getD y31.toNat (kInt .u32).z)) (a1.tmod 32)) y30))] rfl underlying22 ze117 sb117 rfl rfl rfl rfl rfl rfl h55) rfl<|.g 15 rfl<|.ag ((shrI .u64 (orI .u64 (shlI .u64 (IntKind.u64.wrap (a0.getD y31.toNat (kInt .u32).z)) (a1.tmod 32)) y30) 32),(IntKind.i64.wrap (y31+1)),(y32++[(IntKind.u32.wrap (orI .u64 (shlI .u64 (IntKind.u64.wrap (a0.getD y31.toNat (kInt .u32).z)) (a1.tmod 32)) y30))])) [(1,0)] rfl
    ·refine .g 4 rfl<|.jw (h31 (y30,y32)) [(0,0)] rfl
 ·intro h56
  refine .g 4 rfl<|?_
  refine .gd 12 rfl (fun _=>?_) fun _=>?_
  ·refine .g 4 rfl<|.jw (h56 true) [] rfl
  ·refine .g 4 rfl<|.jw (h56 (decide (a1>100000))) [] rfl
instance r05_up_i (a0:ApiInt) (a1:Int):PC (r05_up a0 a1) Tryz.prog 266 [(.agg (kN.enc a0)),(.int .i64 a1)] (fun r=>(.agg (kN.enc (r)))):=pc func266 (by kernel_rfl) rfl fun E=>by
 unfold r05_up
 refine .g 14 rfl<|?_
 refine .cut (fun x:(List Int)=>(r05_up_j1 a0 x,[eP 2 0,eP 4 1,eL 5 x],[(0,(.live 24 [(.bool a0.Neg),(slK (kInt .u32) a0.Mag)])),(1,(.live 24 [(.bool false),(slK (kInt .u32) [])]))])) ?_ ?_
 ·rintro y33
  dsimp only [r05_up_j1]
  refine .g 6 rfl<|.p0 rfl rfl fun x34 _=>.g 4 rfl<|.fi rfl rfl
 ·intro h14
  refine .g 1 rfl<|?_
  refine .lp (fun n (x:Int × (List Int))=>r05_up_l2 a0 n x.1 x.2) (fun x=>([eI 1 x.1,eP 2 0,eP 4 1,eL 5 x.2],[(0,(.live 24 [(.bool a0.Neg),(slK (kInt .u32) a0.Mag)])),(1,(.live 24 [(.bool false),(slK (kInt .u32) [])]))])) (a1,a0.Mag) [(0,0),(1,1)] rfl ?_
  rintro n2 ⟨y41,y42⟩
  try dsimp only
  rw [r05_up_l2]
  refine .g 7 rfl<|?_
  refine .cd rfl (fun _ _=>?_) fun _ _=>?_
  ·refine .g 14 rfl<|.p0 rfl rfl fun x44 _=>.g 13 rfl<|.ag ((IntKind.i64.wrap (y41-(mn y41 100000))),x44.1) [(0,0),(1,1)] rfl
  ·refine .g 4 rfl<|.jw (h14 y42) [(0,0),(1,1)] rfl
instance r05_lift_i (a0:AD) (a1:AD):PC (r05_lift a0 a1) Tryz.prog 169 [(.agg (kD.enc a0)),(.agg (kD.enc a1))] (fun r=>(.tup [(.agg (kN.enc (r.1))),(.agg (kN.enc (r.2.1))),(.int .i64 r.2.2)])):=pc func169 (by kernel_rfl) rfl fun E=>by
 unfold r05_lift
 refine .g 16 rfl<|.ln rfl rfl<|.g 4 rfl<|?_
 refine .cd rfl (fun _ _=>?_) fun _ _=>?_
 ·refine .g 10 rfl<|.dn (by kernel_rfl)<|.g 4 rfl<|.fi rfl rfl
 ·refine .g 5 rfl<|.ln rfl rfl<|.g 4 rfl<|?_
  refine .cd rfl (fun _ _=>?_) fun _ _=>?_
  ·refine .g 10 rfl<|.dn (by kernel_rfl)<|.g 4 rfl<|.fi rfl rfl
  ·refine .g 10 rfl<|?_
   refine .cd rfl (fun _ _=>?_) fun _ _=>?_
   ·refine .g 9 rfl<|.p0 rfl rfl fun x5 _=>.g 7 rfl<|.dn (by kernel_rfl)<|.g 4 rfl<|.fi rfl rfl
   ·refine .g 14 rfl<|.p0 rfl rfl fun x6 _=>.g 5 rfl<|.dn (by kernel_rfl)<|.g 2 rfl<|.fi rfl rfl
instance r05_Cmp_i (a0:AD) (a1:AD):PC (r05_Cmp a0 a1) Tryz.prog 73 [(.agg (kD.enc a0)),(.agg (kD.enc a1))] (fun r=>(.int .i64 r)):=pc func73 (by kernel_rfl) rfl fun E=>by
 unfold r05_Cmp
 refine .g 10 rfl<|.p0 rfl rfl fun x12 _=>.g 6 rfl<|.p0 rfl rfl fun x13 _=>.g 5 rfl<|?_
 refine .cut (fun x:Bool=>(r05_Cmp_j1 a0 a1 x,[eP 2 0,eP 3 1,eB 19 x],[(0,(.live 26 [(.bool a0.M.Neg),(slK (kInt .u32) a0.M.Mag),(.int .i64 a0.E)])),(1,(.live 26 [(.bool a1.M.Neg),(slK (kInt .u32) a1.M.Mag),(.int .i64 a1.E)]))])) ?_ ?_
 ·rintro y14
  dsimp only [r05_Cmp_j1]
  refine .g 1 rfl<|?_
  refine .cd rfl (fun _ _=>?_) fun _ _=>?_
  ·refine .g 7 rfl<|.fi rfl rfl
  ·refine .g 4 rfl<|?_
   refine .cut (fun x:Bool=>(r05_Cmp_j2 a0 a1 x,[eP 2 0,eP 3 1,eB 40 x],[(0,(.live 26 [(.bool a0.M.Neg),(slK (kInt .u32) a0.M.Mag),(.int .i64 a0.E)])),(1,(.live 26 [(.bool a1.M.Neg),(slK (kInt .u32) a1.M.Mag),(.int .i64 a1.E)]))])) ?_ ?_
   ·rintro y15
    dsimp only [r05_Cmp_j2]
    refine .g 1 rfl<|?_
    refine .cd rfl (fun _ _=>?_) fun _ _=>?_
    ·refine .g 6 rfl<|.p0 rfl rfl fun x16 _=>.g 5 rfl<|.fi rfl rfl
    ·refine .g 6 rfl<|.p0 rfl rfl fun x17 _=>.g 1 rfl<|.p0 rfl rfl fun x18 _=>.g 1 rfl<|.dn (by kernel_rfl)<|.g 1 rfl<|?_
     refine .cd rfl (fun _ _=>?_) fun _ _=>?_
     ·refine .g 4 rfl<|.p0 rfl rfl fun x19 _=>.g 1 rfl<|.p0 rfl rfl fun x20 _=>.g 5 rfl<|.dn (by kernel_rfl)<|.g 1 rfl<|?_
      refine .cd rfl (fun _ _=>?_) fun _ _=>?_
      ·refine .g 8 rfl<|.fi rfl rfl
      ·refine .g 9 rfl<|.fi rfl rfl
     ·refine .g 6 rfl<|.p0 rfl rfl fun x21 _=>.g 15 rfl<|.p0 rfl rfl fun x22 _=>.g 4 rfl<|.fi rfl rfl
   ·intro h21
    refine .g 9 rfl<|?_
    refine .gd 27 rfl (fun _=>?_) fun _=>?_
    ·refine .g 14 rfl<|.jw (h21 true) [(0,0),(1,1)] rfl
    ·refine .g 3 rfl<|.ln rfl rfl<|.g 3 rfl<|?_
     refine .gd 34 rfl (fun _=>?_) fun _=>?_
     ·refine .g 7 rfl<|.jw (h21 true) [(0,0),(1,1)] rfl
     ·refine .g 3 rfl<|.ln rfl rfl<|.g 3 rfl<|.jw (h21 ((a1.M.Mag.length:Int) == 0)) [(0,0),(1,1)] rfl
 ·intro h24
  refine .g 4 rfl<|?_
  refine .gd 16 rfl (fun _=>?_) fun _=>?_
  ·refine .g 4 rfl<|.jw (h24 true) [(0,0),(1,1)] rfl
  ·refine .g 4 rfl<|.jw (h24 (!x13)) [(0,0),(1,1)] rfl
instance r06_Right_i (a0:AI):PC (r06_Right a0) Tryz.prog 145 [(.agg (kI.enc a0))] (fun r=>(.bool r)):=pc func145 (by kernel_rfl) rfl fun E=>by
 unfold r06_Right
 refine .g 10 rfl<|.p0 rfl rfl fun x6 _=>.g 7 rfl<|.p0 rfl rfl fun x7 _=>.g 4 rfl<|?_
 refine .cut (fun x:Bool=>(r06_Right_j1 x,[eB 2 x],[])) ?_ ?_
 ·rintro y9
  dsimp only [r06_Right_j1]
  refine .g 2 rfl<|.fi rfl rfl
 ·intro h6
  refine .g 3 rfl<|?_
  refine .gd 12 rfl (fun _=>?_) fun _=>?_
  ·refine .g 3 rfl<|?_
   refine .gd 15 rfl (fun _=>?_) fun _=>?_
   ·refine .g 4 rfl<|.p0 rfl rfl fun x10 _=>.g 4 rfl<|.jw (h6 (decide (x10≤0))) [] rfl
   ·refine .g 9 rfl<|.jw (h6 false) [] rfl
  ·refine .g 12 rfl<|.jw (h6 false) [] rfl
instance r06_Has_i (a0:AI) (a1:AD):PC (r06_Has a0 a1) Tryz.prog 62 [(.agg (kI.enc a0)),(.agg (kD.enc a1))] (fun r=>(.bool r)):=pc func62 (by kernel_rfl) rfl fun E=>by
 unfold r06_Has
 refine .g 10 rfl<|.p0 rfl rfl fun x8 _=>.g 6 rfl<|.p0 rfl rfl fun x9 _=>.g 4 rfl<|?_
 refine .cut (fun x:Bool=>(r06_Has_j1 x,[eB 4 x],[])) ?_ ?_
 ·rintro y12
  dsimp only [r06_Has_j1]
  refine .g 2 rfl<|.fi rfl rfl
 ·intro h8
  refine .g 3 rfl<|?_
  refine .gd 12 rfl (fun _=>?_) fun _=>?_
  ·refine .g 3 rfl<|?_
   refine .gd 15 rfl (fun _=>?_) fun _=>?_
   ·refine .g 3 rfl<|.p0 rfl rfl fun x13 _=>.g 3 rfl<|?_
    refine .gd 22 rfl (fun _=>?_) fun _=>?_
    ·refine .g 3 rfl<|.p0 rfl rfl fun x14 _=>.g 4 rfl<|.jw (h8 (decide (x14≤0))) [] rfl
    ·refine .g 8 rfl<|.jw (h8 false) [] rfl
   ·refine .g 15 rfl<|.jw (h8 false) [] rfl
  ·refine .g 18 rfl<|.jw (h8 false) [] rfl
instance l14_examples_i:PC (l14_examples) Tryz.prog 15 [] (fun r=>(.bool r)):=pc func15 (by kernel_rfl) rfl fun E=>by
 unfold l14_examples
 refine .g 7 rfl<|.p0 rfl rfl fun x11 _=>.g 10 rfl<|.p0 rfl rfl fun x12 _=>.g 11 rfl<|.p0 rfl rfl fun x13 _=>.g 9 rfl<|?_
 refine .cut (fun x:Bool=>(l14_examples_j1 x,[eB 0 x],[])) ?_ ?_
 ·rintro y17
  dsimp only [l14_examples_j1]
  refine .g 2 rfl<|.fi rfl rfl
 ·intro h12
  refine .g 2 rfl<|.st rfl (seq rfl) rfl<|.g 1 rfl<|?_
  refine .gd 23 rfl (fun _=>?_) fun _=>?_
  ·refine .g 3 rfl<|?_
   refine .gd 26 rfl (fun _=>?_) fun _=>?_
   ·refine .g 4 rfl<|?_
    refine .gd 30 rfl (fun _=>?_) fun _=>?_
    ·refine .g 4 rfl<|?_
     refine .gd 34 rfl (fun _=>?_) fun _=>?_
     ·refine .g 1 rfl<|.p0 rfl rfl fun x18 _=>.p0 rfl rfl fun x19 _=>.g 2 rfl<|?_
      refine .gd 39 rfl (fun _=>?_) fun _=>?_
      ·refine .g 1 rfl<|.p0 rfl rfl fun x20 _=>.g 3 rfl<|.dn (by kernel_rfl)<|.jw (h12 (x20 == 1)) [] rfl
      ·refine .g 5 rfl<|.dn (by kernel_rfl)<|.jw (h12 false) [] rfl
     ·refine .g 10 rfl<|.dn (by kernel_rfl)<|.jw (h12 false) [] rfl
    ·refine .g 14 rfl<|.dn (by kernel_rfl)<|.jw (h12 false) [] rfl
   ·refine .g 18 rfl<|.dn (by kernel_rfl)<|.jw (h12 false) [] rfl
  ·refine .g 21 rfl<|.dn (by kernel_rfl)<|.jw (h12 false) [] rfl
instance l14_which_i (a0:Int):PC (l14_which a0) Tryz.prog 24 [(.int .i64 a0)] (fun r=>(.int .i64 r)):=pc func24 (by kernel_rfl) rfl fun E=>by
 unfold l14_which
 refine .g 12 rfl<|?_
 refine .cut (fun x:Int=>(l14_which_j1 x,[eI 0 x],[])) ?_ ?_
 ·rintro y2
  dsimp only [l14_which_j1]
  refine .g 10 rfl<|.fi rfl rfl
 ·intro h3
  refine .cd rfl (fun _ _=>?_) fun _ _=>?_
  ·refine .g 6 rfl<|.jw (h3 (IntKind.i64.wrap (0-(IntKind.i64.wrap (a0+1))))) [] rfl
  ·refine .g 1 rfl<|.jw (h3 a0) [] rfl
instance r05_inRange_i (a0:AD):PC (r05_inRange a0) Tryz.prog 128 [(.agg (kD.enc a0))] (fun r=>(.bool r)):=pc func128 (by kernel_rfl) rfl fun E=>by
 unfold r05_inRange
 refine .g 12 rfl<|.ln rfl rfl<|.g 3 rfl<|?_
 refine .cd rfl (fun _ _=>?_) fun _ _=>?_
 ·refine .g 7 rfl<|.fi rfl rfl
 ·refine .g 5 rfl<|.p0 rfl rfl fun x5 _=>.g 4 rfl<|?_
  refine .cut (fun x:Bool=>(r05_inRange_j1 x,[eB 2 x],[])) ?_ ?_
  ·rintro y7
   dsimp only [r05_inRange_j1]
   refine .g 2 rfl<|.fi rfl rfl
  ·intro h9
   refine .g 4 rfl<|?_
   refine .gd 13 rfl (fun _=>?_) fun _=>?_
   ·refine .g 4 rfl<|?_
    refine .gd 17 rfl (fun _=>?_) fun _=>?_
    ·refine .g 5 rfl<|?_
     refine .gd 22 rfl (fun _=>?_) fun _=>?_
     ·refine .g 5 rfl<|?_
      refine .gd 27 rfl (fun _=>?_) fun _=>?_
      ·refine .g 3 rfl<|.p0 rfl rfl fun x8 _=>.g 4 rfl<|.jw (h9 (decide (x8≤262144))) [] rfl
      ·refine .g 8 rfl<|.jw (h9 false) [] rfl
     ·refine .g 13 rfl<|.jw (h9 false) [] rfl
    ·refine .g 18 rfl<|.jw (h9 false) [] rfl
   ·refine .g 22 rfl<|.jw (h9 false) [] rfl
instance r05_Make_i (a0:ApiInt) (a1:Int):PC (r05_Make a0 a1) Tryz.prog 47 [(.agg (kN.enc a0)),(.int .i64 a1)] (fun r=>(.tup [(.agg (kD.enc (⟨((r.1).M),(r.1).E⟩:AD))),(.bool r.2)])):=pc func47 (by kernel_rfl) rfl fun E=>by
 unfold r05_Make
 refine .g 9 rfl<|?_
 refine .cut (fun x:Bool=>(r05_Make_j1 a0 a1 x,[eI 1 a1,eP 2 0,eP 4 1,eB 13 x],[(0,(.live 24 [(.bool a0.Neg),(slK (kInt .u32) a0.Mag)])),(1,(.live 26 [(.bool false),(slK (kInt .u32) []),(.int .i64 0)]))])) ?_ ?_
 ·rintro y4
  dsimp only [r05_Make_j1]
  refine .g 1 rfl<|?_
  refine .cd rfl (fun _ _=>?_) fun _ _=>?_
  ·refine .g 9 rfl<|.fi rfl rfl
  ·refine .g 6 rfl<|.p0 rfl rfl fun x5 _=>.g 7 rfl<|.p0 rfl rfl fun x6 _=>.g 10 rfl<|?_
   refine .cd rfl (fun _ _=>?_) fun _ _=>?_
   ·refine .g 9 rfl<|.fi rfl rfl
   ·refine .g 10 rfl<|.fi rfl rfl
 ·intro h8
  refine .g 4 rfl<|?_
  refine .gd 10 rfl (fun _=>?_) fun _=>?_
  ·refine .g 4 rfl<|.jw (h8 true) [(0,0),(1,1)] rfl
  ·refine .g 4 rfl<|.jw (h8 (decide (a1>100000))) [(0,0),(1,1)] rfl
instance l14_place_i (a0:Int) (a1:AD):PC (l14_place a0 a1) Tryz.prog 25 [(.int .i64 a0),(.agg (kD.enc a1))] (fun r=>(.agg (kD.enc (⟨((r).M),(r).E⟩:AD)))):=pc func25 (by kernel_rfl) rfl fun E=>by
 unfold l14_place
 refine .g 17 rfl<|.ln rfl rfl<|.g 3 rfl<|?_
 refine .cut (fun x:Int=>(l14_place_j1 a0 a1 x,[eI 0 a0,eP 3 0,eP 4 1,eW 5 x],[(0,(.live 26 [(.bool a1.M.Neg),(slK (kInt .u32) a1.M.Mag),(.int .i64 a1.E)])),(1,(.live 26 [(.bool false),(slK (kInt .u32) []),(.int .i64 0)]))])) ?_ ?_
 ·rintro y16
  dsimp only [l14_place_j1]
  refine .g 2 rfl<|?_
  refine .cut (fun x:Bool=>(l14_place_j2 a1 y16 x,[eP 3 0,eP 4 1,eW 5 y16,eB 6 x],[(0,(.live 26 [(.bool a1.M.Neg),(slK (kInt .u32) a1.M.Mag),(.int .i64 a1.E)])),(1,(.live 26 [(.bool false),(slK (kInt .u32) []),(.int .i64 0)]))])) ?_ ?_
  ·rintro y17
   dsimp only [l14_place_j2]
   refine .g 7 rfl<|?_
   refine .cut (fun x:Int × Bool=>(l14_place_j3 a1 x.1 x.2,[eP 3 0,eP 4 1,eW 5 x.1,eB 6 x.2],[(0,(.live 26 [(.bool a1.M.Neg),(slK (kInt .u32) a1.M.Mag),(.int .i64 a1.E)])),(1,(.live 26 [(.bool false),(slK (kInt .u32) []),(.int .i64 0)]))])) ?_ ?_
   ·rintro ⟨y18,y19⟩
    dsimp only [l14_place_j3]
    refine .g 2 rfl<|?_
    refine .cut (fun x:Bool × (List Int) × Int=>(l14_place_j4 x.1 x.2.1 x.2.2,[eP 4 1,eP 7 2],[(1,(.live 26 [(.bool false),(slK (kInt .u32) []),(.int .i64 0)])),(2,(.live 26 [(.bool x.1),(slK (kInt .u32) x.2.1),(.int .i64 x.2.2)]))])) ?_ ?_
    ·rintro ⟨y24,y25,y26⟩
     dsimp only [l14_place_j4]
     refine .g 8 rfl<|.fi rfl rfl
    ·intro h13
     refine .g 5 rfl<|?_
     refine .gd 36 rfl (fun _=>?_) fun _=>?_
     ·refine .g 4 rfl<|.st rfl (bs (kInt .u32) [y18] rfl rfl) rfl<|.p0 rfl rfl fun x27 _=>.p0 rfl rfl fun x28 _=>.g 7 rfl<|.jw (h13 (((x28.1).M).Neg,((x28.1).M).Mag,(x28.1).E)) [(1,1),(2,2)] rfl
     ·refine .g 4 rfl<|.st rfl (bs (kInt .u32) [y18] rfl rfl) rfl<|.p0 rfl rfl fun x29 _=>.p0 rfl rfl fun x30 _=>.g 7 rfl<|.jw (h13 (((x30.1).M).Neg,((x30.1).M).Mag,(x30.1).E)) [(1,1),(2,2)] rfl
   ·intro h19
    refine .cd rfl (fun h20 _=>?_) fun h20 _=>?_
    ·refine .kn 6 true rfl h20<|.g 5 rfl<|.jw (h19 ((mx y16 1),true)) [(0,0),(1,1)] rfl
    ·refine .kn 6 false rfl h20<|.g 1 rfl<|.jw (h19 (y16,false)) [(0,0),(1,1)] rfl
  ·intro h22
   refine .g 4 rfl<|?_
   refine .gd 21 rfl (fun _=>?_) fun _=>?_
   ·refine .g 9 rfl<|.jw (h22 true) [(0,0),(1,1)] rfl
   ·refine .g 4 rfl<|?_
    refine .gd 25 rfl (fun _=>?_) fun _=>?_
    ·refine .g 5 rfl<|.jw (h22 true) [(0,0),(1,1)] rfl
    ·refine .g 5 rfl<|.jw (h22 (a0 == 9)) [(0,0),(1,1)] rfl
 ·intro h25
  refine .cd rfl (fun _ _=>?_) fun _ _=>?_
  ·refine .g 4 rfl<|.ix rfl rfl<|.g 3 rfl<|.jw (h25 (a1.M.Mag.getD 0 (kInt .u32).z)) [(0,0),(1,1)] rfl
  ·refine .g 1 rfl<|.jw (h25 0) [(0,0),(1,1)] rfl
instance l14_FunNames_i (a0:Int) (a1:Int) (a2:Int):PC (l14_FunNames a0 a1 a2) Tryz.prog 4 [(.int .i64 a0),(.int .i64 a1),(.int .i64 a2)] (fun r=>(.bool r)):=pc func4 (by kernel_rfl) rfl fun E=>by
 unfold l14_FunNames
 refine .g 7 rfl<|.p0 rfl rfl fun x9 _=>.g 10 rfl<|?_
 refine .cd rfl (fun _ _=>?_) fun _ _=>?_
 ·refine .g 7 rfl<|.fi rfl rfl
 ·refine .g 5 rfl<|.p0 rfl rfl fun x10 _=>.g 10 rfl<|.p0 rfl rfl fun x11 _=>.g 10 rfl<|.p0 rfl rfl fun x12 _=>.g 9 rfl<|.p0 rfl rfl fun x13 _=>.p0 rfl rfl fun x14 _=>.g 4 rfl<|?_
  refine .cut (fun x:Bool=>(l14_FunNames_j1 x9 a0 x10 x14 x11 a1 x,[eI 0 a0,eI 1 a1,eB 7 x9,(8,some (.str x10.1)),eB 9 x10.2,(10,some (.str x11.1)),eB 11 x11.2,eI 13 x14,eB 14 x],[])) ?_ ?_
  ·rintro y15
   dsimp only [l14_FunNames_j1]
   refine .g 2 rfl<|?_
   refine .cut (fun x:Bool=>(l14_FunNames_j2 x,[eB 6 x],[])) ?_ ?_
   ·rintro y16
    dsimp only [l14_FunNames_j2]
    refine .g 2 rfl<|.fi rfl rfl
   ·intro h24
    refine .g 3 rfl<|?_
    refine .gd 51 rfl (fun _=>?_) fun _=>?_
    ·refine .g 4 rfl<|?_
     refine .gd 55 rfl (fun _=>?_) fun _=>?_
     ·refine .g 6 rfl<|?_
      refine .gd 61 rfl (fun _=>?_) fun _=>?_
      ·refine .g 2 rfl<|.st rfl (sne rfl) rfl<|.g 3 rfl<|?_
       refine .gd 67 rfl (fun _=>?_) fun _=>?_
       ·refine .g 3 rfl<|?_
        refine .gd 70 rfl (fun _=>?_) fun _=>?_
        ·refine .g 21 rfl<|.jw (h24 ((x14 != 1) == y15)) [] rfl
        ·refine .g 4 rfl<|?_
         refine .gd 74 rfl (fun _=>?_) fun _=>?_
         ·refine .g 17 rfl<|.jw (h24 ((x14 != 1) == y15)) [] rfl
         ·refine .g 2 rfl<|.st rfl (seq rfl) rfl<|.g 7 rfl<|?_
          refine .gd 84 rfl (fun _=>?_) fun _=>?_
          ·refine .g 7 rfl<|.jw (h24 ((x14 != 1) == y15)) [] rfl
          ·refine .g 7 rfl<|.jw (h24 false) [] rfl
       ·refine .g 24 rfl<|.jw (h24 false) [] rfl
      ·refine .g 30 rfl<|.jw (h24 false) [] rfl
     ·refine .g 6 rfl<|?_
      refine .gd 61 rfl (fun _=>?_) fun _=>?_
      ·refine .g 2 rfl<|.st rfl (sne rfl) rfl<|.g 3 rfl<|?_
       refine .gd 67 rfl (fun _=>?_) fun _=>?_
       ·refine .g 3 rfl<|?_
        refine .gd 70 rfl (fun _=>?_) fun _=>?_
        ·refine .g 21 rfl<|.jw (h24 ((x14 != 1) == y15)) [] rfl
        ·refine .g 4 rfl<|?_
         refine .gd 74 rfl (fun _=>?_) fun _=>?_
         ·refine .g 17 rfl<|.jw (h24 ((x14 != 1) == y15)) [] rfl
         ·refine .g 2 rfl<|.st rfl (seq rfl) rfl<|.g 7 rfl<|?_
          refine .gd 84 rfl (fun _=>?_) fun _=>?_
          ·refine .g 7 rfl<|.jw (h24 ((x14 != 1) == y15)) [] rfl
          ·refine .g 7 rfl<|.jw (h24 false) [] rfl
       ·refine .g 24 rfl<|.jw (h24 false) [] rfl
      ·refine .g 30 rfl<|.jw (h24 false) [] rfl
    ·refine .g 40 rfl<|.jw (h24 false) [] rfl
  ·intro h37
   refine .g 4 rfl<|?_
   refine .gd 38 rfl (fun _=>?_) fun _=>?_
   ·refine .g 13 rfl<|.jw (h37 true) [] rfl
   ·refine .g 3 rfl<|?_
    refine .gd 41 rfl (fun _=>?_) fun _=>?_
    ·refine .g 4 rfl<|?_
     refine .gd 45 rfl (fun _=>?_) fun _=>?_
     ·refine .g 6 rfl<|.jw (h37 (decide (a2≤64))) [] rfl
     ·refine .g 6 rfl<|.jw (h37 false) [] rfl
    ·refine .g 10 rfl<|.jw (h37 false) [] rfl
end Go.Proofs.YtoakhpdeadglpaaGreat.Gen
