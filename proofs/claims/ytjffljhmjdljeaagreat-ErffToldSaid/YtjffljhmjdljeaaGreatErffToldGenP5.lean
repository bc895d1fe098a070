/- Printed by geng.py: a call does what the plain function says. -/
import Derived.Test.YtjffljhmjdljeaaGreatErffToldGenP4
set_option linter.unusedVariables false
set_option linter.unusedSimpArgs false
set_option maxRecDepth 4000
namespace Go.Proofs.YtjffljhmjdljeaaGreat.Gen
open Go Go.Abs Go.Proofs Go.Proofs.Tryz
instance r11_fits_i (a0:AD) (a1:Int):PC (r11_fits a0 a1) Tryz.prog 95 [(.agg (kD.enc a0)),(.int .i64 a1)] (fun r=>(.int .i64 r)):=pc func95 (by kernel_rfl) rfl fun E=>by
 unfold r11_fits
 refine .g 9 rfl<|.p0 rfl rfl fun x14 _=>.g 5 rfl<|?_
 refine .cut (fun x:Bool=>(r11_fits_j1 a0 x,[eP 2 0,eB 24 x],[(0,(.live 26 [(.bool a0.M.Neg),(slK (kInt .u32) a0.M.Mag),(.int .i64 a0.E)]))])) ?_ ?_
 ·rintro y16
  dsimp only [r11_fits_j1]
  refine .g 1 rfl<|?_
  refine .cd rfl (fun _ _=>?_) fun _ _=>?_
  ·refine .g 7 rfl<|.fi rfl rfl
  ·refine .g 4 rfl<|?_
   refine .cut (fun x:Bool=>(r11_fits_j2 x,[eB 34 x],[])) ?_ ?_
   ·rintro y21
    dsimp only [r11_fits_j2]
    refine .g 1 rfl<|?_
    refine .cd rfl (fun _ _=>?_) fun _ _=>?_
    ·refine .g 7 rfl<|.fi rfl rfl
    ·refine .g 8 rfl<|.fi rfl rfl
   ·intro h15
    refine .g 2 rfl<|.p0 rfl rfl fun x22 _=>.p0 rfl rfl fun x23 _=>.g 2 rfl<|?_
    refine .gd 29 rfl (fun _=>?_) fun _=>?_
    ·refine .g 5 rfl<|.dn (by kernel_rfl)<|.jw (h15 true) [] rfl
    ·refine .g 1 rfl<|.p0 rfl rfl fun x24 _=>.p0 rfl rfl fun x25 _=>.g 2 rfl<|.dn (by kernel_rfl)<|.jw (h15 (decide (x25>0))) [] rfl
 ·intro h21
  refine .g 4 rfl<|?_
  refine .gd 10 rfl (fun _=>?_) fun _=>?_
  ·refine .g 15 rfl<|.jw (h21 true) [(0,0)] rfl
  ·refine .g 4 rfl<|?_
   refine .gd 14 rfl (fun _=>?_) fun _=>?_
   ·refine .g 11 rfl<|.jw (h21 true) [(0,0)] rfl
   ·refine .g 4 rfl<|?_
    refine .gd 18 rfl (fun _=>?_) fun _=>?_
    ·refine .g 7 rfl<|.jw (h21 true) [(0,0)] rfl
    ·refine .g 3 rfl<|.p0 rfl rfl fun x26 _=>.g 3 rfl<|.jw (h21 (decide (x26>200))) [(0,0)] rfl
instance r01_Mul_i (a0:List Int) (a1:List Int):PC (r01_Mul a0 a1) Tryz.prog 215 [(slK (kInt .u32) a0),(slK (kInt .u32) a1)] (fun r=>(slK (kInt .u32) r)):=pc func215 (by kernel_rfl) rfl fun E=>by
 unfold r01_Mul
 refine .g 2 rfl<|.st rfl (as0 rfl) rfl<|.g 5 rfl<|.ln rfl rfl<|.g 1 rfl<|.ln rfl rfl<|.g 1 rfl<|.guard fun h1=>.sv (.row 0 (kInt .u32).sz 0 (((List.replicate ((IntKind.i64.wrap ((a0.length:Int)+(a1.length:Int))).toNat) (kInt .u32).z)).length)) [(0,(rwK (kInt .u32) 134 (List.replicate ((IntKind.i64.wrap ((a0.length:Int)+(a1.length:Int))).toNat) (kInt .u32).z)))] rfl (snd_makeK (kInt .u32) _ _ _ _ _ 0 _ _ _ rfl underlying22 ze134 sb134 (by decide) rfl rfl rfl rfl rfl h1) rfl<|.g 9 rfl<|?_
 refine .cut (fun x:(List Int)=>(r01_Mul_j1 x,[(5,some (.row 0 (kInt .u32).sz 0 ((x).length)))],[(0,(rwK (kInt .u32) 134 x))])) ?_ ?_
 ·rintro y276
  dsimp only [r01_Mul_j1]
  refine .g 2 rfl<|?_
  refine .weak ?_ (fun a w h=>Conc.freezeK (kInt .u32) h 5 0 0 ((y276).length) 134 y276 rfl rfl (by omega))
  refine .weak ?_ (fun a w h=>take_all h)
  refine .g 2 rfl<|.p0 rfl rfl fun x277 _=>.g 4 rfl<|.fi rfl rfl
 ·intro h375
  refine .g 1 rfl<|?_
  refine .lp (fun n (x:Int × (List Int))=>r01_Mul_l2 a0 a1 n x.1 x.2) (fun x=>([eL 0 a0,eL 1 a1,(5,some (.row 0 (kInt .u32).sz 0 ((x.2).length))),eI 6 x.1],[(0,(rwK (kInt .u32) 134 x.2))])) (0,(List.replicate ((IntKind.i64.wrap ((a0.length:Int)+(a1.length:Int))).toNat) (kInt .u32).z)) [(0,0)] rfl ?_
  rintro n2 ⟨y338,y339⟩
  try dsimp only
  rw [r01_Mul_l2]
  refine .g 5 rfl<|.ln rfl rfl<|.g 3 rfl<|?_
  refine .cd rfl (fun _ _=>?_) fun _ _=>?_
  ·refine .g 3 rfl<|?_
   refine .cut (fun x:(List Int)=>(r01_Mul_j3 (fun z0 z1=>r01_Mul_l2 a0 a1 n2 z0 z1) y338 x,[eL 0 a0,eL 1 a1,(5,some (.row 0 (kInt .u32).sz 0 ((x).length))),eI 6 y338],[(0,(rwK (kInt .u32) 134 x))])) ?_ ?_
   ·rintro y354
    dsimp only [r01_Mul_j3]
    refine .g 6 rfl<|.ag ((IntKind.i64.wrap (y338+1)),y354) [(0,0)] rfl
   ·intro h687
    refine .g 12 rfl<|?_
    refine .cut (fun x:Int × (List Int)=>(r01_Mul_j4 y338 a1 (fun z0 z1=>r01_Mul_l2 a0 a1 n2 z0 z1) x.1 x.2,[eL 0 a0,eL 1 a1,(5,some (.row 0 (kInt .u32).sz 0 ((x.2).length))),eI 6 y338,eX 7 x.1],[(0,(rwK (kInt .u32) 134 x.2))])) ?_ ?_
    ·rintro ⟨y361,y362⟩
     dsimp only [r01_Mul_j4]
     refine .g 5 rfl<|.ln rfl rfl<|.g 3 rfl<|.guard fun h718=>?_
     obtain ⟨h7181,h7182⟩:=h718
     refine .sv (.rptr 0 (kInt .u32).sz ((IntKind.i64.wrap (y338+(a1.length:Int))).toNat) 0) [] rfl (idx_r (snd_index_r _ _ _ _ _ 0 0 ((y362).length) _ (IntKind.i64.wrap (y338+(a1.length:Int))) rfl underlying22 si134 rfl rfl rfl rfl h7181 (by omega)) (Nat.zero_add _)) rfl<|.sm [(0,(rwK (kInt .u32) 134 ((y362).set ((IntKind.i64.wrap (y338+(a1.length:Int))).toNat) (IntKind.u32.wrap y361))))] rfl (snd_storeK_sca (kInt .u32) _ _ _ 0 ((IntKind.i64.wrap (y338+(a1.length:Int))).toNat) _ _ (IntKind.u32.wrap y361) _ rfl rfl rfl sc134 rfl rfl rfl rfl rfl rfl (by first | omega | (simp only [List.length_set]; omega))) rfl<|?_
     refine .weak ?_ (fun a w h=>Conc.relen h 5 ((((y362).set ((IntKind.i64.wrap (y338+(a1.length:Int))).toNat) (IntKind.u32.wrap y361))).length) rfl List.length_set.symm)
     refine .g 2 rfl<|.jw (h687 ((y362).set ((IntKind.i64.wrap (y338+(a1.length:Int))).toNat) (IntKind.u32.wrap y361))) [(0,0)] rfl
    ·intro h719
     refine .g 1 rfl<|?_
     refine .lp (fun n (x:Int × Int × (List Int))=>r01_Mul_l5 a1 y338 a0 (fun z0 z1=>r01_Mul_l2 a0 a1 n2 z0 z1) n x.1 x.2.1 x.2.2) (fun x=>([eL 0 a0,eL 1 a1,(5,some (.row 0 (kInt .u32).sz 0 ((x.2.2).length))),eI 6 y338,eX 7 x.1,eI 8 x.2.1],[(0,(rwK (kInt .u32) 134 x.2.2))])) (0,0,y339) [(0,0)] rfl ?_
     rintro n5 ⟨y366,y367,y368⟩
     try dsimp only
     rw [r01_Mul_l5]
     refine .g 5 rfl<|.ln rfl rfl<|.g 3 rfl<|?_
     refine .cd rfl (fun _ _=>?_) fun _ _=>?_
     ·refine .g 8 rfl<|.ix rfl rfl<|.g 4 rfl<|.ix rfl rfl<|.g 7 rfl<|.guard fun h748=>?_
      obtain ⟨h7481,h7482⟩:=h748
      refine .sv (.rptr 0 (kInt .u32).sz ((IntKind.i64.wrap (y338+y367)).toNat) 0) [] rfl (idx_r (snd_index_r _ _ _ _ _ 0 0 ((y368).length) _ (IntKind.i64.wrap (y338+y367)) rfl underlying22 si134 rfl rfl rfl rfl h7481 (by omega)) (Nat.zero_add _)) rfl<|.sv (.int .u32 ((y368).getD ((IntKind.i64.wrap (y338+y367)).toNat) (kInt .u32).z)) [] rfl (snd_loadK_sca (kInt .u32) _ _ 0 ((IntKind.i64.wrap (y338+y367)).toNat) 0 _ _ rfl sc134 rfl rfl rfl rfl (by first | omega | (simp only [List.length_set]; omega)) (by decide)) rfl<|.g 5 rfl<|.dn (by kernel_rfl)<|.g 9 rfl<|.guard fun h749=>?_
      obtain ⟨h7491,h7492⟩:=h749
      refine .sv (.rptr 0 (kInt .u32).sz ((IntKind.i64.wrap (y338+y367)).toNat) 0) [] rfl (idx_r (snd_index_r _ _ _ _ _ 0 0 ((y368).length) _ (IntKind.i64.wrap (y338+y367)) rfl underlying22 si134 rfl rfl rfl rfl h7491 (by omega)) (Nat.zero_add _)) rfl<|.sm [(0,(rwK (kInt .u32) 134 ((y368).set ((IntKind.i64.wrap (y338+y367)).toNat) (IntKind.u32.wrap (IntKind.u64.wrap ((IntKind.u64.wrap ((IntKind.u64.wrap ((IntKind.u64.wrap (a0.getD y338.toNat (kInt .u32).z))*(IntKind.u64.wrap (a1.getD y367.toNat (kInt .u32).z))))+(IntKind.u64.wrap ((y368).getD ((IntKind.i64.wrap (y338+y367)).toNat) (kInt .u32).z))))+y366))))))] rfl (snd_storeK_sca (kInt .u32) _ _ _ 0 ((IntKind.i64.wrap (y338+y367)).toNat) _ _ (IntKind.u32.wrap (IntKind.u64.wrap ((IntKind.u64.wrap ((IntKind.u64.wrap ((IntKind.u64.wrap (a0.getD y338.toNat (kInt .u32).z))*(IntKind.u64.wrap (a1.getD y367.toNat (kInt .u32).z))))+(IntKind.u64.wrap ((y368).getD ((IntKind.i64.wrap (y338+y367)).toNat) (kInt .u32).z))))+y366))) _ rfl rfl rfl sc134 rfl rfl rfl rfl rfl rfl (by first | omega | (simp only [List.length_set]; omega))) rfl<|?_
      refine .weak ?_ (fun a w h=>Conc.relen h 5 ((((y368).set ((IntKind.i64.wrap (y338+y367)).toNat) (IntKind.u32.wrap (IntKind.u64.wrap ((IntKind.u64.wrap ((IntKind.u64.wrap ((IntKind.u64.wrap (a0.getD y338.toNat (kInt .u32).z))*(IntKind.u64.wrap (a1.getD y367.toNat (kInt .u32).z))))+(IntKind.u64.wrap ((y368).getD ((IntKind.i64.wrap (y338+y367)).toNat) (kInt .u32).z))))+y366))))).length) rfl List.length_set.symm)
      refine .g 14 rfl<|.ag ((shrI .u64 (IntKind.u64.wrap ((IntKind.u64.wrap ((IntKind.u64.wrap ((IntKind.u64.wrap (a0.getD y338.toNat (kInt .u32).z))*(IntKind.u64.wrap (a1.getD y367.toNat (kInt .u32).z))))+(IntKind.u64.wrap ((y368).getD ((IntKind.i64.wrap (y338+y367)).toNat) (kInt .u32).z))))+y366)) 32),(IntKind.i64.wrap (y367+1)),((y368).set ((IntKind.i64.wrap (y338+y367)).toNat) (IntKind.u32.wrap (IntKind.u64.wrap ((IntKind.u64.wrap ((IntKind.u64.wrap ((IntKind.u64.wrap (a0.getD y338.toNat (kInt .u32).z))*(IntKind.u64.wrap (a1.getD y367.toNat (kInt .u32).z))))+(IntKind.u64.wrap ((y368).getD ((IntKind.i64.wrap (y338+y367)).toNat) (kInt .u32).z))))+y366))))) [(0,0)] rfl
     ·refine .g 4 rfl<|.jw (h719 (y366,y368)) [(0,0)] rfl
  ·refine .g 4 rfl<|.jw (h375 y339) [(0,0)] rfl
instance r04_Mul_i (a0:ApiInt) (a1:ApiInt):PC (r04_Mul a0 a1) Tryz.prog 158 [(.agg (kN.enc a0)),(.agg (kN.enc a1))] (fun r=>(.agg (kN.enc (r)))):=pc func158 (by kernel_rfl) rfl fun E=>by
 unfold r04_Mul
 refine .g 18 rfl<|.p0 rfl rfl fun x3 _=>.p0 rfl rfl fun x4 _=>.g 1 rfl<|.dn (by kernel_rfl)<|.g 2 rfl<|.fi rfl rfl
instance r05_inRange_i (a0:AD):PC (r05_inRange a0) Tryz.prog 122 [(.agg (kD.enc a0))] (fun r=>(.bool r)):=pc func122 (by kernel_rfl) rfl fun E=>by
 unfold r05_inRange
 refine .g 12 rfl<|.ln rfl rfl<|.g 3 rfl<|?_
 refine .cd rfl (fun _ _=>?_) fun _ _=>?_
 ·refine .g 7 rfl<|.fi rfl rfl
 ·refine .g 5 rfl<|.p0 rfl rfl fun x5 _=>.g 4 rfl<|?_
  refine .cut (fun x:Bool=>(r05_inRange_j1 x,[eB 2 x],[])) ?_ ?_
  ·rintro y7
   dsimp only [r05_inRange_j1]
   refine .g 2 rfl<|.fi rfl rfl
  ·intro h9
   refine .g 4 rfl<|?_
   refine .gd 13 rfl (fun _=>?_) fun _=>?_
   ·refine .g 4 rfl<|?_
    refine .gd 17 rfl (fun _=>?_) fun _=>?_
    ·refine .g 5 rfl<|?_
     refine .gd 22 rfl (fun _=>?_) fun _=>?_
     ·refine .g 5 rfl<|?_
      refine .gd 27 rfl (fun _=>?_) fun _=>?_
      ·refine .g 3 rfl<|.p0 rfl rfl fun x8 _=>.g 4 rfl<|.jw (h9 (decide (x8≤262144))) [] rfl
      ·refine .g 8 rfl<|.jw (h9 false) [] rfl
     ·refine .g 13 rfl<|.jw (h9 false) [] rfl
    ·refine .g 18 rfl<|.jw (h9 false) [] rfl
   ·refine .g 22 rfl<|.jw (h9 false) [] rfl
instance r05_told_i (a0:AD):PC (r05_told a0) Tryz.prog 157 [(.agg (kD.enc a0))] (fun r=>(.tup [(.agg (kD.enc (⟨((r.1).M),(r.1).E⟩:AD))),(.int .i64 r.2)])):=pc func157 (by kernel_rfl) rfl fun E=>by
 unfold r05_told
 refine .g 10 rfl<|.p0 rfl rfl fun x2 _=>.g 10 rfl<|?_
 refine .cd rfl (fun _ _=>?_) fun _ _=>?_
 ·refine .g 9 rfl<|.fi rfl rfl
 ·refine .g 10 rfl<|.fi rfl rfl
instance r05_Mul_i (a0:AD) (a1:AD):PC (r05_Mul a0 a1) Tryz.prog 96 [(.agg (kD.enc a0)),(.agg (kD.enc a1))] (fun r=>(.tup [(.agg (kD.enc (⟨((r.1).M),(r.1).E⟩:AD))),(.int .i64 r.2)])):=pc func96 (by kernel_rfl) rfl fun E=>by
 unfold r05_Mul
 refine .g 11 rfl<|.p0 rfl rfl fun x7 _=>.g 6 rfl<|.p0 rfl rfl fun x8 _=>.g 5 rfl<|?_
 refine .cut (fun x:Bool=>(r05_Mul_j1 a0 a1 x,[eP 2 0,eP 3 1,eP 4 2,eB 17 x],[(0,(.live 26 [(.bool a0.M.Neg),(slK (kInt .u32) a0.M.Mag),(.int .i64 a0.E)])),(1,(.live 26 [(.bool a1.M.Neg),(slK (kInt .u32) a1.M.Mag),(.int .i64 a1.E)])),(2,(.live 26 [(.bool false),(slK (kInt .u32) []),(.int .i64 0)]))])) ?_ ?_
 ·rintro y9
  dsimp only [r05_Mul_j1]
  refine .g 1 rfl<|?_
  refine .cd rfl (fun _ _=>?_) fun _ _=>?_
  ·refine .g 9 rfl<|.fi rfl rfl
  ·refine .g 8 rfl<|.p0 rfl rfl fun x10 _=>.g 5 rfl<|.p0 rfl rfl fun x11 _=>.p0 rfl rfl fun x12 _=>.g 4 rfl<|.dn (by kernel_rfl)<|.g 2 rfl<|.fi rfl rfl
 ·intro h9
  refine .g 4 rfl<|?_
  refine .gd 14 rfl (fun _=>?_) fun _=>?_
  ·refine .g 4 rfl<|.jw (h9 true) [(0,0),(1,1),(2,2)] rfl
  ·refine .g 4 rfl<|.jw (h9 (!x8)) [(0,0),(1,1),(2,2)] rfl
instance r01_Add_i (a0:List Int) (a1:List Int):PC (r01_Add a0 a1) Tryz.prog 218 [(slK (kInt .u32) a0),(slK (kInt .u32) a1)] (fun r=>(slK (kInt .u32) r)):=pc func218 (by kernel_rfl) rfl fun E=>by
 unfold r01_Add
 refine .g 21 rfl<|?_
 refine .cut (fun x:(List Int)=>(r01_Add_j1 x,[(5,some (grA (kInt .u32) 0 x))],[(0,(grV (kInt .u32) 134 x))])) ?_ ?_
 ·rintro y57
  dsimp only [r01_Add_j1]
  refine .g 2 rfl<|?_
  refine .weak ?_ (fun a w h=>Conc.gr_still (kInt .u32) h 5 0 134 y57 rfl rfl)
  refine .g 2 rfl<|.p0 rfl rfl fun x58 _=>.g 4 rfl<|.fi rfl rfl
 ·intro h26
  refine .g 1 rfl<|?_
  refine .weak ?_ (fun a w h=>Conc.gr_nil (kInt .u32) h 5 0 134 rfl)
  refine .lo (fun n (x:Int × Int × (List Int))=>r01_Add_l2 a0 a1 n x.1 x.2.1 x.2.2) (fun x=>([eL 0 a0,eL 1 a1,(5,some (grA (kInt .u32) 0 x.2.2)),eX 6 x.1,eI 7 x.2.1],[(0,(grV (kInt .u32) 134 x.2.2))])) (0,0,[]) rfl (fun hE=>jn (m:=0) [(0,0)] hE (.l rfl<|.l rfl<|.g rfl (ren_gr (K:=(kInt .u32)) (by rfl) [])<|.i rfl<|.i rfl<|.nil) (.cons (.refl _) (renV_gr (K:=(kInt .u32)) 134 [])<|.nil) rfl) ?_
  rintro n2 ⟨y70,y71,y72⟩
  try dsimp only
  rw [r01_Add_l2]
  refine .g 5 rfl<|.ln rfl rfl<|.g 1 rfl<|.ln rfl rfl<|.g 5 rfl<|?_
  refine .cd rfl (fun _ _=>?_) fun _ _=>?_
  ·refine .g 8 rfl<|.p0 rfl rfl fun x75 _=>.g 2 rfl<|.p0 rfl rfl fun x76 _=>.g 11 rfl<|.st rfl (bs (kInt .u32) [(IntKind.u32.wrap (IntKind.u64.wrap ((IntKind.u64.wrap (x75+x76))+y70)))] rfl rfl) rfl<|.guard fun h50=>.sv (.row 1 (kInt .u32).sz 0 (((y72++[(IntKind.u32.wrap (IntKind.u64.wrap ((IntKind.u64.wrap (x75+x76))+y70)))])).length)) [(1,(rwK (kInt .u32) 134 (y72++[(IntKind.u32.wrap (IntKind.u64.wrap ((IntKind.u64.wrap (x75+x76))+y70)))]))),(0,.dead)] rfl (snd_appendK_gr (kInt .u32) _ _ _ _ _ 0 1 y72 [(IntKind.u32.wrap (IntKind.u64.wrap ((IntKind.u64.wrap (x75+x76))+y70)))] rfl underlying22 ze134 sb134 rfl rfl rfl rfl rfl rfl rfl h50) rfl<|.g 15 rfl<|?_
   refine .weak ?_ (fun a w h=>Conc.gr_row (kInt .u32) h 5 1 134 (y72++[(IntKind.u32.wrap (IntKind.u64.wrap ((IntKind.u64.wrap (x75+x76))+y70)))]) rfl rfl (by first | omega | (simp only [List.length_append,List.length_cons,List.length_set]; omega) | simp))
   exact .ao ((shrI .u64 (IntKind.u64.wrap ((IntKind.u64.wrap (x75+x76))+y70)) 32),(IntKind.i64.wrap (y71+1)),(y72++[(IntKind.u32.wrap (IntKind.u64.wrap ((IntKind.u64.wrap (x75+x76))+y70)))])) rfl fun hE=>jn (m:=0) [(1,0)] hE (.l rfl<|.l rfl<|.g rfl (ren_gr (K:=(kInt .u32)) (by rfl) (y72++[(IntKind.u32.wrap (IntKind.u64.wrap ((IntKind.u64.wrap (x75+x76))+y70)))]))<|.i rfl<|.i rfl<|.nil) (.cons (.refl _) (renV_gr (K:=(kInt .u32)) 134 (y72++[(IntKind.u32.wrap (IntKind.u64.wrap ((IntKind.u64.wrap (x75+x76))+y70)))]))<|.nil) rfl
  ·refine .g 4 rfl<|.jo (h26 y72) rfl fun hE=>jn (m:=0) [(0,0)] hE (.g rfl (ren_gr (K:=(kInt .u32)) (by rfl) y72)<|.nil) (.cons (.refl _) (renV_gr (K:=(kInt .u32)) 134 y72)<|.nil) rfl
instance r04_Shift_i (a0:ApiInt) (a1:Int):PC (r04_Shift a0 a1) Tryz.prog 160 [(.agg (kN.enc a0)),(.int .i64 a1)] (fun r=>(.tup [(.agg (kN.enc (r.1))),(.bool r.2)])):=pc func160 (by kernel_rfl) rfl fun E=>by
 unfold r04_Shift
 refine .g 9 rfl<|?_
 refine .cut (fun x:Bool=>(r04_Shift_j1 a0 a1 x,[eI 1 a1,eP 2 0,eP 4 1,eB 17 x],[(0,(.live 24 [(.bool a0.Neg),(slK (kInt .u32) a0.Mag)])),(1,(.live 24 [(.bool false),(slK (kInt .u32) [])]))])) ?_ ?_
 ·rintro y14
  dsimp only [r04_Shift_j1]
  refine .g 1 rfl<|?_
  refine .cd rfl (fun _ _=>?_) fun _ _=>?_
  ·refine .g 9 rfl<|.fi rfl rfl
  ·refine .g 8 rfl<|.p0 rfl rfl fun x15 _=>.g 11 rfl<|?_
   refine .cd rfl (fun _ _=>?_) fun _ _=>?_
   ·refine .g 5 rfl<|.p0 rfl rfl fun x16 _=>.g 12 rfl<|.p0 rfl rfl fun x17 _=>.g 6 rfl<|.fi rfl rfl
   ·refine .g 8 rfl<|.p0 rfl rfl fun x18 _=>.g 8 rfl<|.p0 rfl rfl fun x19 _=>.g 9 rfl<|?_
    refine .cut (fun x:Bool=>(r04_Shift_j2 x18 x15 x,[eP 4 1,eP 6 2,eL 9 x18,eB 57 x],[(1,(.live 24 [(.bool false),(slK (kInt .u32) [])])),(2,(.live 24 [(.bool ((x15).Neg)),(slK (kInt .u32) ((x15).Mag))]))])) ?_ ?_
    ·rintro y21
     dsimp only [r04_Shift_j2]
     refine .g 1 rfl<|?_
     refine .cut (fun x:(List Int)=>(r04_Shift_j3 x15 x,[eP 4 1,eP 6 2,eL 9 x],[(1,(.live 24 [(.bool false),(slK (kInt .u32) [])])),(2,(.live 24 [(.bool ((x15).Neg)),(slK (kInt .u32) ((x15).Mag))]))])) ?_ ?_
     ·rintro y23
      dsimp only [r04_Shift_j3]
      refine .g 6 rfl<|.p0 rfl rfl fun x24 _=>.g 5 rfl<|.fi rfl rfl
     ·intro h17
      refine .cd rfl (fun _ _=>?_) fun _ _=>?_
      ·refine .g 2 rfl<|.st rfl (bs (kInt .u32) [1] rfl rfl) rfl<|.p0 rfl rfl fun x25 _=>.g 2 rfl<|.jw (h17 x25) [(1,1),(2,2)] rfl
      ·refine .g 1 rfl<|.jw (h17 x18) [(1,1),(2,2)] rfl
    ·intro h21
     refine .g 4 rfl<|?_
     refine .gd 51 rfl (fun _=>?_) fun _=>?_
     ·refine .g 3 rfl<|.p0 rfl rfl fun x26 _=>.g 3 rfl<|.jw (h21 (x26 != 0)) [(1,1),(2,2)] rfl
     ·refine .g 7 rfl<|.jw (h21 false) [(1,1),(2,2)] rfl
 ·intro h24
  refine .g 4 rfl<|?_
  refine .gd 14 rfl (fun _=>?_) fun _=>?_
  ·refine .g 4 rfl<|.jw (h24 true) [(0,0),(1,1)] rfl
  ·refine .g 4 rfl<|.jw (h24 (decide (a1>100000))) [(0,0),(1,1)] rfl
instance r05_Floor_i (a0:AD):PC (r05_Floor a0) Tryz.prog 97 [(.agg (kD.enc a0))] (fun r=>(.tup [(.agg (kN.enc (r.1))),(.int .i64 r.2)])):=pc func97 (by kernel_rfl) rfl fun E=>by
 unfold r05_Floor
 refine .g 10 rfl<|.p0 rfl rfl fun x9 _=>.g 10 rfl<|?_
 refine .cd rfl (fun _ _=>?_) fun _ _=>?_
 ·refine .g 9 rfl<|.fi rfl rfl
 ·refine .g 5 rfl<|.p0 rfl rfl fun x10 _=>.g 10 rfl<|?_
  refine .cd rfl (fun _ _=>?_) fun _ _=>?_
  ·refine .g 9 rfl<|.fi rfl rfl
  ·refine .g 10 rfl<|?_
   refine .cd rfl (fun _ _=>?_) fun _ _=>?_
   ·refine .g 6 rfl<|.p0 rfl rfl fun x11 _=>.g 6 rfl<|.fi rfl rfl
   ·refine .g 17 rfl<|.p0 rfl rfl fun x12 _=>.g 18 rfl<|?_
    refine .cut (fun x:Bool × (List Int)=>(r05_Floor_j1 x.1 x.2,[eP 2 1,eP 7 2],[(1,(.live 24 [(.bool false),(slK (kInt .u32) [])])),(2,(.live 24 [(.bool x.1),(slK (kInt .u32) x.2)]))])) ?_ ?_
    ·rintro ⟨y14,y15⟩
     dsimp only [r05_Floor_j1]
     refine .g 9 rfl<|.fi rfl rfl
    ·intro h14
     refine .cd rfl (fun _ _=>?_) fun _ _=>?_
     ·refine .g 6 rfl<|.p0 rfl rfl fun x16 _=>.g 5 rfl<|.jw (h14 ((x16.1).Neg,(x16.1).Mag)) [(1,1),(2,2)] rfl
     ·refine .g 1 rfl<|.jw (h14 ((x12.1).Neg,(x12.1).Mag)) [(1,1),(2,2)] rfl
instance r01_Small_i (a0:List Int):PC (r01_Small a0) Tryz.prog 161 [(slK (kInt .u32) a0)] (fun r=>(.tup [(.int .u64 r.1),(.bool r.2)])):=pc func161 (by kernel_rfl) rfl fun E=>by
 unfold r01_Small
 refine .g 9 rfl<|.p0 rfl rfl fun x4 _=>.g 7 rfl<|.ln rfl rfl<|.g 3 rfl<|?_
 refine .cd rfl (fun _ _=>?_) fun _ _=>?_
 ·refine .g 8 rfl<|.fi rfl rfl
 ·refine .g 5 rfl<|.p0 rfl rfl fun x5 _=>.g 1 rfl<|.p0 rfl rfl fun x6 _=>.g 7 rfl<|.fi rfl rfl
instance r04_Small_i (a0:ApiInt):PC (r04_Small a0) Tryz.prog 98 [(.agg (kN.enc a0))] (fun r=>(.tup [(.int .i64 r.1),(.bool r.2)])):=pc func98 (by kernel_rfl) rfl fun E=>by
 unfold r04_Small
 refine .g 13 rfl<|.p0 rfl rfl fun x5 _=>.g 8 rfl<|.p0 rfl rfl fun x6 _=>.g 10 rfl<|?_
 refine .cut (fun x:Bool=>(r04_Small_j1 x5 x6 x,[eP 4 1,eX 5 x6.1,eB 18 x],[(1,(.live 24 [(.bool ((x5).Neg)),(slK (kInt .u32) ((x5).Mag))]))])) ?_ ?_
 ·rintro y8
  dsimp only [r04_Small_j1]
  refine .g 1 rfl<|?_
  refine .cd rfl (fun _ _=>?_) fun _ _=>?_
  ·refine .g 9 rfl<|.fi rfl rfl
  ·refine .g 8 rfl<|?_
   refine .cd rfl (fun _ _=>?_) fun _ _=>?_
   ·refine .g 11 rfl<|.fi rfl rfl
   ·refine .g 7 rfl<|?_
    refine .cd rfl (fun _ _=>?_) fun _ _=>?_
    ·refine .g 9 rfl<|.fi rfl rfl
    ·refine .g 13 rfl<|.fi rfl rfl
 ·intro h24
  refine .g 4 rfl<|?_
  refine .gd 21 rfl (fun _=>?_) fun _=>?_
  ·refine .g 14 rfl<|.jw (h24 true) [(1,1)] rfl
  ·refine .g 4 rfl<|?_
   refine .gd 25 rfl (fun _=>?_) fun _=>?_
   ·refine .g 10 rfl<|.jw (h24 true) [(1,1)] rfl
   ·refine .g 3 rfl<|?_
    refine .gd 28 rfl (fun _=>?_) fun _=>?_
    ·refine .g 7 rfl<|.jw (h24 (!((x5).Neg))) [(1,1)] rfl
    ·refine .g 7 rfl<|.jw (h24 false) [(1,1)] rfl
instance r11_Terms_i (a0:AD) (a1:Int):PC (r11_Terms a0 a1) Tryz.prog 38 [(.agg (kD.enc a0)),(.int .i64 a1)] (fun r=>(.tup [(.int .i64 r.1),(.int .i64 r.2)])):=pc func38 (by kernel_rfl) rfl fun E=>by
 unfold r11_Terms
 refine .g 11 rfl<|.p0 rfl rfl fun x5 _=>.g 10 rfl<|?_
 refine .cd rfl (fun _ _=>?_) fun _ _=>?_
 ·refine .g 9 rfl<|.fi rfl rfl
 ·refine .g 6 rfl<|.p0 rfl rfl fun x6 _=>.g 15 rfl<|?_
  refine .cd rfl (fun _ _=>?_) fun _ _=>?_
  ·refine .g 9 rfl<|.fi rfl rfl
  ·refine .g 5 rfl<|.p0 rfl rfl fun x7 _=>.g 15 rfl<|?_
   refine .cd rfl (fun _ _=>?_) fun _ _=>?_
   ·refine .g 9 rfl<|.fi rfl rfl
   ·refine .g 5 rfl<|.p0 rfl rfl fun x8 _=>.g 20 rfl<|.fi rfl rfl
instance erff_Erfc_i (a0:AD) (a1:Int):PC (erff_Erfc a0 a1) Tryz.prog 34 [(.agg (kD.enc a0)),(.int .i64 a1)] (fun r=>(.tup [(.agg (kI.enc (⟨⟨(((r.1).Lo).M),((r.1).Lo).E⟩,⟨(((r.1).Hi).M),((r.1).Hi).E⟩⟩:AI))),(.int .i64 r.2)])):=pc func34 (by kernel_rfl) rfl fun E=>by
 unfold erff_Erfc
 refine .g 12 rfl<|.p0 rfl rfl fun x9 _=>.g 9 rfl<|?_
 refine .cd rfl (fun _ _=>?_) fun _ _=>?_
 ·refine .g 10 rfl<|.fi rfl rfl
 ·refine .g 7 rfl<|.p0 rfl rfl fun x10 _=>.g 15 rfl<|?_
  refine .cd rfl (fun _ _=>?_) fun _ _=>?_
  ·refine .g 10 rfl<|.fi rfl rfl
  ·refine .g 6 rfl<|.bind fun x11 h7=>?_
   rcases x11 with x12 | x13
   ·dsimp only
    refine .st rfl (cl (iv_New_k_0 h7) [] [3] [true] rfl (.i<|.nil) .nil (fresh_cons rfl fnil) (.cons .dead .nil) (ren_tupL (.cons .nilptr<|.i<|.nil)) (.turned .nil) rfl) rfl<|.g 12 rfl<|.no
   ·dsimp only
    refine .st rfl (cl (iv_New_k_1 h7) [] [3] [true] rfl (.i<|.nil) .nil (fresh_cons rfl fnil) (.cons (.v (.i<|.i<|.nil)) .nil) (ren_tupL (.p rfl<|.i<|.nil)) (.turned .nil) rfl) rfl<|.g 12 rfl<|.bind fun x14 h8=>.st rfl (cl (CC.h h8) [3] [] [true] rfl (.p rfl<|.i<|.nil) (.p rfl (.i<|.i<|.nil) .nil) fnil (.cons (.v (.i<|.i<|.nil)) .nil) (ren_agg (K:=kI) _) (.turned .nil) rfl) rfl<|.g 1 rfl<|.bind fun x15 h9=>.st rfl (cl (CC.h h9) [3] [] [true] rfl (.p rfl<|.a kI<|.a kI<|.nil) (.p rfl (.i<|.i<|.nil) .nil) fnil (.cons (.v (.i<|.i<|.nil)) .nil) (ren_agg (K:=kI) _) (.turned .nil) rfl) rfl<|.g 1 rfl<|.bind fun x16 h10=>.st rfl (cl (CC.h h10) [3] [] [false] rfl (.p rfl<|.a kI<|.i<|.nil) (.p rfl (.i<|.i<|.nil) .nil) fnil (.cons (.v (.i<|.i<|.nil)) .nil) (ren_tupL (.a kI<|.i<|.nil)) (.kept rfl .nil) rfl) rfl<|.g 4 rfl<|.dn (by kernel_rfl)<|.g 2 rfl<|.fi rfl rfl
instance r06_New_i (a0:Int):CC (r06_New a0) Tryz.prog 99 [(.int .i64 a0)] [] (fun r=>(match r with | (Sum.inl y)=>.nilptr | (Sum.inr y)=>(.ptr 0 0))) (fun r=>(match r with | (Sum.inl y)=>[.dead] | (Sum.inr y)=>[(.live 171 [(.int .i64 y.1),(.int .i64 y.2)])])):=cc func99 (by kernel_rfl) rfl fun E=>by
 unfold r06_New
 refine .g 7 rfl<|?_
 refine .cut (fun x:Bool=>(r06_New_j1 a0 x,[eI 0 a0,eB 8 x],[])) ?_ ?_
 ·rintro y2
  dsimp only [r06_New_j1]
  refine .g 1 rfl<|?_
  refine .cd rfl (fun _ _=>?_) fun _ _=>?_
  ·refine .g 7 rfl<|.fi rfl rfl
  ·refine .g 11 rfl<|.fi rfl rfl
 ·intro h4
  refine .g 4 rfl<|?_
  refine .gd 5 rfl (fun _=>?_) fun _=>?_
  ·refine .g 4 rfl<|.jw (h4 true) [] rfl
  ·refine .g 4 rfl<|.jw (h4 (decide (a0>400))) [] rfl
theorem r06_New_k_0 {a0:Int} {r:Unit} (h:r06_New a0=some (Sum.inl r)):Cal Tryz.prog 99 [(.int .i64 a0)] [] .nilptr [.dead]:=CC.h h
theorem r06_New_k_1 {a0:Int} {r:Int × Int} (h:r06_New a0=some (Sum.inr r)):Cal Tryz.prog 99 [(.int .i64 a0)] [] (.ptr 0 0) [(.live 171 [(.int .i64 r.1),(.int .i64 r.2)])]:=CC.h h
instance r04_Neg_i (a0:ApiInt):PC (r04_Neg a0) Tryz.prog 220 [(.agg (kN.enc a0))] (fun r=>(.agg (kN.enc (r)))):=pc func220 (by kernel_rfl) rfl fun E=>by
 unfold r04_Neg
 refine .g 13 rfl<|.p0 rfl rfl fun x2 _=>.g 4 rfl<|.fi rfl rfl
instance r05_Neg_i (a0:AD):PC (r05_Neg a0) Tryz.prog 162 [(.agg (kD.enc a0))] (fun r=>(.agg (kD.enc (⟨((r).M),(r).E⟩:AD)))):=pc func162 (by kernel_rfl) rfl fun E=>by
 unfold r05_Neg
 refine .g 9 rfl<|.p0 rfl rfl fun x3 _=>.g 10 rfl<|?_
 refine .cd rfl (fun _ _=>?_) fun _ _=>?_
 ·refine .g 8 rfl<|.fi rfl rfl
 ·refine .g 6 rfl<|.p0 rfl rfl fun x4 _=>.g 4 rfl<|.dn (by kernel_rfl)<|.g 2 rfl<|.fi rfl rfl
instance r09_Fits_i (a0:AD) (a1:Int):PC (r09_Fits a0 a1) Tryz.prog 184 [(.agg (kD.enc a0)),(.int .i64 a1)] (fun r=>(.bool r)):=pc func184 (by kernel_rfl) rfl fun E=>by
 unfold r09_Fits
 refine .g 9 rfl<|.p0 rfl rfl fun x5 _=>.g 4 rfl<|?_
 refine .cut (fun x:Bool=>(r09_Fits_j1 x,[eB 4 x],[])) ?_ ?_
 ·rintro y7
  dsimp only [r09_Fits_j1]
  refine .g 2 rfl<|.fi rfl rfl
 ·intro h6
  refine .g 3 rfl<|?_
  refine .gd 9 rfl (fun _=>?_) fun _=>?_
  ·refine .g 4 rfl<|?_
   refine .gd 13 rfl (fun _=>?_) fun _=>?_
   ·refine .g 4 rfl<|?_
    refine .gd 17 rfl (fun _=>?_) fun _=>?_
    ·refine .g 3 rfl<|.p0 rfl rfl fun x8 _=>.g 4 rfl<|.jw (h6 (decide (x8≤400))) [] rfl
    ·refine .g 8 rfl<|.jw (h6 false) [] rfl
   ·refine .g 12 rfl<|.jw (h6 false) [] rfl
  ·refine .g 16 rfl<|.jw (h6 false) [] rfl
instance r05_Size_i (a0:AD):PC (r05_Size a0) Tryz.prog 221 [(.agg (kD.enc a0))] (fun r=>(.tup [(.int .i64 r.1),(.bool r.2)])):=pc func221 (by kernel_rfl) rfl fun E=>by
 unfold r05_Size
 refine .g 10 rfl<|.p0 rfl rfl fun x4 _=>.g 5 rfl<|?_
 refine .cut (fun x:Bool=>(r05_Size_j1 a0 x,[eP 1 0,eB 15 x],[(0,(.live 26 [(.bool a0.M.Neg),(slK (kInt .u32) a0.M.Mag),(.int .i64 a0.E)]))])) ?_ ?_
 ·rintro y5
  dsimp only [r05_Size_j1]
  refine .g 1 rfl<|?_
  refine .cd rfl (fun _ _=>?_) fun _ _=>?_
  ·refine .g 8 rfl<|.fi rfl rfl
  ·refine .g 5 rfl<|.p0 rfl rfl fun x6 _=>.g 5 rfl<|.fi rfl rfl
 ·intro h6
  refine .g 4 rfl<|?_
  refine .gd 9 rfl (fun _=>?_) fun _=>?_
  ·refine .g 7 rfl<|.jw (h6 true) [(0,0)] rfl
  ·refine .g 3 rfl<|.ln rfl rfl<|.g 3 rfl<|.jw (h6 ((a0.M.Mag.length:Int) == 0)) [(0,0)] rfl
instance r06_Right_i (a0:AI):PC (r06_Right a0) Tryz.prog 119 [(.agg (kI.enc a0))] (fun r=>(.bool r)):=pc func119 (by kernel_rfl) rfl fun E=>by
 unfold r06_Right
 refine .g 10 rfl<|.p0 rfl rfl fun x6 _=>.g 7 rfl<|.p0 rfl rfl fun x7 _=>.g 4 rfl<|?_
 refine .cut (fun x:Bool=>(r06_Right_j1 x,[eB 2 x],[])) ?_ ?_
 ·rintro y9
  dsimp only [r06_Right_j1]
  refine .g 2 rfl<|.fi rfl rfl
 ·intro h6
  refine .g 3 rfl<|?_
  refine .gd 12 rfl (fun _=>?_) fun _=>?_
  ·refine .g 3 rfl<|?_
   refine .gd 15 rfl (fun _=>?_) fun _=>?_
   ·refine .g 4 rfl<|.p0 rfl rfl fun x10 _=>.g 4 rfl<|.jw (h6 (decide (x10≤0))) [] rfl
   ·refine .g 9 rfl<|.jw (h6 false) [] rfl
  ·refine .g 12 rfl<|.jw (h6 false) [] rfl
instance r06_Cerr_i (a0:Int) (a1:Int) (a2:Int):CC (r06_Cerr a0 a1 a2) Tryz.prog 224 [(.ptr 0 0),(.int .i64 a0)] [(.live 171 [(.int .i64 a1),(.int .i64 a2)])] (fun r=>(.bool r.1)) (fun r=>[(.live 171 [(.int .i64 a1),(.int .i64 r.2)])]):=cc func224 (by kernel_rfl) rfl fun E=>by
 unfold r06_Cerr
 refine .g 15 rfl<|?_
 refine .cut (fun x:Int=>(r06_Cerr_j1 x,[eP 0 0],[(0,(.live 171 [(.int .i64 a1),(.int .i64 x)]))])) ?_ ?_
 ·rintro y2
  dsimp only [r06_Cerr_j1]
  refine .g 12 rfl<|.fi rfl rfl
 ·intro h3
  refine .cd rfl (fun _ _=>?_) fun _ _=>?_
  ·refine .g 7 rfl<|.jw (h3 a0) [(0,0)] rfl
  ·refine .g 1 rfl<|.jw (h3 a2) [(0,0)] rfl
instance r06_Carg_i (a0:List AI) (a1:Int) (a2:Int):CC (r06_Carg a0 a1 a2) Tryz.prog 173 [(.ptr 0 0),(slK kI a0)] [(.live 171 [(.int .i64 a1),(.int .i64 a2)])] (fun r=>(.bool r.1)) (fun r=>[(.live 171 [(.int .i64 a1),(.int .i64 r.2)])]):=cc func173 (by kernel_rfl) rfl fun E=>by
 unfold r06_Carg
 refine .g 11 rfl<|?_
 refine .cut (fun x:Unit=>(r06_Carg_j1 a2,[eP 0 0],[(0,(.live 171 [(.int .i64 a1),(.int .i64 a2)]))])) ?_ ?_
 ·rintro _
  dsimp only [r06_Carg_j1]
  refine .g 12 rfl<|.fi rfl rfl
 ·intro h37
  refine .g 1 rfl<|?_
  refine .lp (fun n (x:Int)=>r06_Carg_l2 a0 a1 a2 n x) (fun x=>([eP 0 0,eK kI 1 a0,eI 5 x],[(0,(.live 171 [(.int .i64 a1),(.int .i64 a2)]))])) 0 [(0,0)] rfl ?_
  rintro n2 y52
  try dsimp only
  rw [r06_Carg_l2]
  refine .g 5 rfl<|.ln rfl rfl<|.g 3 rfl<|?_
  refine .cd rfl (fun _ _=>?_) fun _ _=>?_
  ·refine .g 8 rfl<|.ix rfl rfl<|.g 1 rfl<|.p0 rfl rfl fun x55 _=>.g 9 rfl<|?_
   refine .cd rfl (fun _ _=>?_) fun _ _=>?_
   ·refine .g 3 rfl<|.bind fun x56 h73=>.st rfl (cl (CC.h h73) [0] [] [true] rfl (.p rfl<|.i<|.nil) (.p rfl (.i<|.i<|.nil) .nil) fnil (.cons (.v (.i<|.i<|.nil)) .nil) (.bool _) (.turned .nil) rfl) rfl<|.g 9 rfl<|.fi rfl rfl
   ·refine .g 8 rfl<|.ag (IntKind.i64.wrap (y52+1)) [(0,0)] rfl
  ·refine .g 4 rfl<|.jw (h37 ()) [(0,0)] rfl
instance r06_CPoint_i (a0:AD) (a1:Int) (a2:Int):CC (r06_CPoint a0 a1 a2) Tryz.prog 166 [(.ptr 0 0),(.agg (kD.enc a0))] [(.live 171 [(.int .i64 a1),(.int .i64 a2)])] (fun r=>(.agg (kI.enc (⟨⟨(((r.1).Lo).M),((r.1).Lo).E⟩,⟨(((r.1).Hi).M),((r.1).Hi).E⟩⟩:AI)))) (fun r=>[(.live 171 [(.int .i64 a1),(.int .i64 r.2)])]):=cc func166 (by kernel_rfl) rfl fun E=>by
 unfold r06_CPoint
 refine .g 13 rfl<|.st rfl (bs kI [(⟨a0,a0⟩:AI)] rfl rfl) rfl<|.bind fun x2 h1=>.st rfl (cl (CC.h h1) [0] [] [true] rfl (.p rfl<|.l<|.nil) (.p rfl (.i<|.i<|.nil) .nil) fnil (.cons (.v (.i<|.i<|.nil)) .nil) (.bool _) (.turned .nil) rfl) rfl<|.g 3 rfl<|?_
 refine .cd rfl (fun _ _=>?_) fun _ _=>?_
 ·refine .g 8 rfl<|.fi rfl rfl
 ·refine .g 11 rfl<|.fi rfl rfl
instance r05_Scale_i (a0:AD) (a1:Int):PC (r05_Scale a0 a1) Tryz.prog 223 [(.agg (kD.enc a0)),(.int .i64 a1)] (fun r=>(.tup [(.agg (kD.enc (⟨((r.1).M),(r.1).E⟩:AD))),(.int .i64 r.2)])):=pc func223 (by kernel_rfl) rfl fun E=>by
 unfold r05_Scale
 refine .g 10 rfl<|.p0 rfl rfl fun x4 _=>.g 10 rfl<|?_
 refine .cd rfl (fun _ _=>?_) fun _ _=>?_
 ·refine .g 9 rfl<|.fi rfl rfl
 ·refine .g 4 rfl<|?_
  refine .cut (fun x:Bool=>(r05_Scale_j1 a0 a1 x,[eI 1 a1,eP 2 0,eP 4 1,eB 17 x],[(0,(.live 26 [(.bool a0.M.Neg),(slK (kInt .u32) a0.M.Mag),(.int .i64 a0.E)])),(1,(.live 26 [(.bool false),(slK (kInt .u32) []),(.int .i64 0)]))])) ?_ ?_
  ·rintro y5
   dsimp only [r05_Scale_j1]
   refine .g 1 rfl<|?_
   refine .cd rfl (fun _ _=>?_) fun _ _=>?_
   ·refine .g 9 rfl<|.fi rfl rfl
   ·refine .g 8 rfl<|.ln rfl rfl<|.g 3 rfl<|?_
    refine .cd rfl (fun _ _=>?_) fun _ _=>?_
    ·refine .g 9 rfl<|.fi rfl rfl
    ·refine .g 11 rfl<|.p0 rfl rfl fun x6 _=>.g 7 rfl<|.fi rfl rfl
  ·intro h10
   refine .g 4 rfl<|?_
   refine .gd 14 rfl (fun _=>?_) fun _=>?_
   ·refine .g 4 rfl<|.jw (h10 true) [(0,0),(1,1)] rfl
   ·refine .g 4 rfl<|.jw (h10 (decide (a1>100000))) [(0,0),(1,1)] rfl
instance r06_Cout_i (a0:AD) (a1:AD) (a2:Int) (a3:Int):CC (r06_Cout a0 a1 a2 a3) Tryz.prog 225 [(.ptr 0 0),(.agg (kD.enc a0)),(.agg (kD.enc a1))] [(.live 171 [(.int .i64 a2),(.int .i64 a3)])] (fun r=>(.agg (kI.enc (⟨⟨(((r).Lo).M),((r).Lo).E⟩,⟨(((r).Hi).M),((r).Hi).E⟩⟩:AI)))) (fun r=>[(.live 171 [(.int .i64 a2),(.int .i64 a3)])]):=cc func225 (by kernel_rfl) rfl fun E=>by
 unfold r06_Cout
 refine .g 17 rfl<|?_
 refine .cd rfl (fun _ _=>?_) fun _ _=>?_
 ·refine .g 8 rfl<|.fi rfl rfl
 ·refine .g 11 rfl<|.fi rfl rfl
instance r06_CScale_i (a0:AI) (a1:Int) (a2:Int) (a3:Int):CC (r06_CScale a0 a1 a2 a3) Tryz.prog 164 [(.ptr 0 0),(.agg (kI.enc a0)),(.int .i64 a1)] [(.live 171 [(.int .i64 a2),(.int .i64 a3)])] (fun r=>(.agg (kI.enc (⟨⟨(((r.1).Lo).M),((r.1).Lo).E⟩,⟨(((r.1).Hi).M),((r.1).Hi).E⟩⟩:AI)))) (fun r=>[(.live 171 [(.int .i64 a2),(.int .i64 r.2)])]):=cc func164 (by kernel_rfl) rfl fun E=>by
 unfold r06_CScale
 refine .g 11 rfl<|.st rfl (bs kI [a0] rfl rfl) rfl<|.bind fun x7 h1=>.st rfl (cl (CC.h h1) [0] [] [true] rfl (.p rfl<|.l<|.nil) (.p rfl (.i<|.i<|.nil) .nil) fnil (.cons (.v (.i<|.i<|.nil)) .nil) (.bool _) (.turned .nil) rfl) rfl<|.g 3 rfl<|?_
 refine .cd rfl (fun _ _=>?_) fun _ _=>?_
 ·refine .g 8 rfl<|.fi rfl rfl
 ·refine .g 7 rfl<|.p0 rfl rfl fun x8 _=>.g 13 rfl<|.bind fun x9 h5=>.st rfl (cl (CC.h h5) [0] [] [true] rfl (.p rfl<|.i<|.nil) (.p rfl (.i<|.i<|.nil) .nil) fnil (.cons (.v (.i<|.i<|.nil)) .nil) (.bool _) (.turned .nil) rfl) rfl<|.g 3 rfl<|?_
  refine .cd rfl (fun _ _=>?_) fun _ _=>?_
  ·refine .g 8 rfl<|.fi rfl rfl
  ·refine .g 7 rfl<|.p0 rfl rfl fun x10 _=>.g 12 rfl<|.bind fun x11 h9=>.st rfl (cl (CC.h h9) [0] [] [true] rfl (.p rfl<|.i<|.nil) (.p rfl (.i<|.i<|.nil) .nil) fnil (.cons (.v (.i<|.i<|.nil)) .nil) (.bool _) (.turned .nil) rfl) rfl<|.g 7 rfl<|.bind fun x12 h10=>.st rfl (cl (CC.h h10) [0] [] [false] rfl (.p rfl<|.a kD<|.a kD<|.nil) (.p rfl (.i<|.i<|.nil) .nil) fnil (.cons (.v (.i<|.i<|.nil)) .nil) (ren_agg (K:=kI) _) (.kept rfl .nil) rfl) rfl<|.g 4 rfl<|.fi rfl rfl
instance r05_Make_i (a0:ApiInt) (a1:Int):PC (r05_Make a0 a1) Tryz.prog 58 [(.agg (kN.enc a0)),(.int .i64 a1)] (fun r=>(.tup [(.agg (kD.enc (⟨((r.1).M),(r.1).E⟩:AD))),(.bool r.2)])):=pc func58 (by kernel_rfl) rfl fun E=>by
 unfold r05_Make
 refine .g 9 rfl<|?_
 refine .cut (fun x:Bool=>(r05_Make_j1 a0 a1 x,[eI 1 a1,eP 2 0,eP 4 1,eB 13 x],[(0,(.live 24 [(.bool a0.Neg),(slK (kInt .u32) a0.Mag)])),(1,(.live 26 [(.bool false),(slK (kInt .u32) []),(.int .i64 0)]))])) ?_ ?_
 ·rintro y4
  dsimp only [r05_Make_j1]
  refine .g 1 rfl<|?_
  refine .cd rfl (fun _ _=>?_) fun _ _=>?_
  ·refine .g 9 rfl<|.fi rfl rfl
  ·refine .g 6 rfl<|.p0 rfl rfl fun x5 _=>.g 7 rfl<|.p0 rfl rfl fun x6 _=>.g 10 rfl<|?_
   refine .cd rfl (fun _ _=>?_) fun _ _=>?_
   ·refine .g 9 rfl<|.fi rfl rfl
   ·refine .g 10 rfl<|.fi rfl rfl
 ·intro h8
  refine .g 4 rfl<|?_
  refine .gd 10 rfl (fun _=>?_) fun _=>?_
  ·refine .g 4 rfl<|.jw (h8 true) [(0,0),(1,1)] rfl
  ·refine .g 4 rfl<|.jw (h8 (decide (a1>100000))) [(0,0),(1,1)] rfl
instance r05_Half_i (a0:Int):PC (r05_Half a0) Tryz.prog 177 [(.int .i64 a0)] (fun r=>(.agg (kD.enc (⟨((r).M),(r).E⟩:AD)))):=pc func177 (by kernel_rfl) rfl fun E=>by
 unfold r05_Half
 refine .g 7 rfl<|.p0 rfl rfl fun x3 _=>.g 1 rfl<|.p0 rfl rfl fun x4 _=>.g 15 rfl<|.fi rfl rfl
instance r06_Has_i (a0:AI) (a1:AD):PC (r06_Has a0 a1) Tryz.prog 57 [(.agg (kI.enc a0)),(.agg (kD.enc a1))] (fun r=>(.bool r)):=pc func57 (by kernel_rfl) rfl fun E=>by
 unfold r06_Has
 refine .g 10 rfl<|.p0 rfl rfl fun x8 _=>.g 6 rfl<|.p0 rfl rfl fun x9 _=>.g 4 rfl<|?_
 refine .cut (fun x:Bool=>(r06_Has_j1 x,[eB 4 x],[])) ?_ ?_
 ·rintro y12
  dsimp only [r06_Has_j1]
  refine .g 2 rfl<|.fi rfl rfl
 ·intro h8
  refine .g 3 rfl<|?_
  refine .gd 12 rfl (fun _=>?_) fun _=>?_
  ·refine .g 3 rfl<|?_
   refine .gd 15 rfl (fun _=>?_) fun _=>?_
   ·refine .g 3 rfl<|.p0 rfl rfl fun x13 _=>.g 3 rfl<|?_
    refine .gd 22 rfl (fun _=>?_) fun _=>?_
    ·refine .g 3 rfl<|.p0 rfl rfl fun x14 _=>.g 4 rfl<|.jw (h8 (decide (x14≤0))) [] rfl
    ·refine .g 8 rfl<|.jw (h8 false) [] rfl
   ·refine .g 15 rfl<|.jw (h8 false) [] rfl
  ·refine .g 18 rfl<|.jw (h8 false) [] rfl
instance r06_In_i (a0:AI) (a1:AI):PC (r06_In a0 a1) Tryz.prog 259 [(.agg (kI.enc a0)),(.agg (kI.enc a1))] (fun r=>(.bool r)):=pc func259 (by kernel_rfl) rfl fun E=>by
 unfold r06_In
 refine .g 10 rfl<|.p0 rfl rfl fun x7 _=>.g 4 rfl<|?_
 refine .cut (fun x:Bool=>(r06_In_j1 x,[eB 4 x],[])) ?_ ?_
 ·rintro y10
  dsimp only [r06_In_j1]
  refine .g 2 rfl<|.fi rfl rfl
 ·intro h6
  refine .g 3 rfl<|?_
  refine .gd 9 rfl (fun _=>?_) fun _=>?_
  ·refine .g 3 rfl<|.p0 rfl rfl fun x11 _=>.g 2 rfl<|?_
   refine .gd 15 rfl (fun _=>?_) fun _=>?_
   ·refine .g 3 rfl<|.p0 rfl rfl fun x12 _=>.g 3 rfl<|.jw (h6 x12) [] rfl
   ·refine .g 7 rfl<|.jw (h6 false) [] rfl
  ·refine .g 13 rfl<|.jw (h6 false) [] rfl
instance r07_fits_i (a0:AI) (a1:Int) (a2:Int) (a3:Int):CC (r07_fits a0 a1 a2 a3) Tryz.prog 247 [(.ptr 0 0),(.agg (kI.enc a0)),(.int .i64 a1)] [(.live 171 [(.int .i64 a2),(.int .i64 a3)])] (fun r=>(.bool r.1)) (fun r=>[(.live 171 [(.int .i64 a2),(.int .i64 r.2)])]):=cc func247 (by kernel_rfl) rfl fun E=>by
 unfold r07_fits
 refine .g 16 rfl<|?_
 refine .cd rfl (fun _ _=>?_) fun _ _=>?_
 ·refine .g 7 rfl<|.fi rfl rfl
 ·refine .g 5 rfl<|.p0 rfl rfl fun x5 _=>.g 10 rfl<|?_
  refine .cd rfl (fun _ _=>?_) fun _ _=>?_
  ·refine .g 15 rfl<|.fi rfl rfl
  ·refine .g 5 rfl<|.p0 rfl rfl fun x6 _=>.g 9 rfl<|.p0 rfl rfl fun x7 _=>.g 2 rfl<|.p0 rfl rfl fun x8 _=>.g 1 rfl<|.dn (by kernel_rfl)<|.g 1 rfl<|?_
   refine .cd rfl (fun _ _=>?_) fun _ _=>?_
   ·refine .g 15 rfl<|.fi rfl rfl
   ·refine .g 8 rfl<|.fi rfl rfl
instance r06_CInt_i (a0:Int) (a1:Int) (a2:Int):CC (r06_CInt a0 a1 a2) Tryz.prog 103 [(.ptr 0 0),(.int .i64 a0)] [(.live 171 [(.int .i64 a1),(.int .i64 a2)])] (fun r=>(.agg (kI.enc (⟨⟨(((r.1).Lo).M),((r.1).Lo).E⟩,⟨(((r.1).Hi).M),((r.1).Hi).E⟩⟩:AI)))) (fun r=>[(.live 171 [(.int .i64 a1),(.int .i64 r.2)])]):=cc func103 (by kernel_rfl) rfl fun E=>by
 unfold r06_CInt
 refine .g 9 rfl<|.p0 rfl rfl fun x3 _=>.bind fun x4 h2=>.st rfl (cl (CC.h h2) [0] [] [true] rfl (.p rfl<|.a kD<|.nil) (.p rfl (.i<|.i<|.nil) .nil) fnil (.cons (.v (.i<|.i<|.nil)) .nil) (ren_agg (K:=kI) _) (.turned .nil) rfl) rfl<|.g 4 rfl<|.fi rfl rfl
instance r07_Terms_i (a0:Int):PC (r07_Terms a0) Tryz.prog 248 [(.int .i64 a0)] (fun r=>(.int .i64 r)):=pc func248 (by kernel_rfl) rfl fun E=>by
 unfold r07_Terms
 refine .g 16 rfl<|.fi rfl rfl
instance r06_least_i (a0:List AD):PC (r06_least a0) Tryz.prog 227 [(slK kD a0)] (fun r=>(.agg (kD.enc (⟨((r).M),(r).E⟩:AD)))):=pc func227 (by kernel_rfl) rfl fun E=>by
 unfold r06_least
 refine .g 8 rfl<|.ix rfl rfl<|.g 11 rfl<|?_
 refine .cut (fun x:Bool × (List Int) × Int=>(r06_least_j1 x.1 x.2.1 x.2.2,[eP 2 0,eP 3 1],[(0,(.live 26 [(.bool false),(slK (kInt .u32) []),(.int .i64 0)])),(1,(.live 26 [(.bool x.1),(slK (kInt .u32) x.2.1),(.int .i64 x.2.2)]))])) ?_ ?_
 ·rintro ⟨y100,y101,y102⟩
  dsimp only [r06_least_j1]
  refine .g 8 rfl<|.fi rfl rfl
 ·intro h56
  refine .g 1 rfl<|?_
  refine .lp (fun n (x:Int × Bool × (List Int) × Int)=>r06_least_l2 a0 n x.1 x.2.1 x.2.2.1 x.2.2.2) (fun x=>([eK kD 0 a0,eP 2 0,eP 3 1,eI 4 x.1],[(0,(.live 26 [(.bool false),(slK (kInt .u32) []),(.int .i64 0)])),(1,(.live 26 [(.bool x.2.1),(slK (kInt .u32) x.2.2.1),(.int .i64 x.2.2.2)]))])) (1,((a0.getD 0 zAD).M).Neg,((a0.getD 0 zAD).M).Mag,(a0.getD 0 zAD).E) [(0,0),(1,1)] rfl ?_
  rintro n2 ⟨y123,y124,y125,y126⟩
  try dsimp only
  rw [r06_least_l2]
  refine .g 5 rfl<|.ln rfl rfl<|.g 3 rfl<|?_
  refine .cd rfl (fun _ _=>?_) fun _ _=>?_
  ·refine .g 8 rfl<|.ix rfl rfl<|.g 2 rfl<|.p0 rfl rfl fun x131 _=>.g 1 rfl<|.dn (by kernel_rfl)<|.g 1 rfl<|?_
   refine .cut (fun x:Bool × (List Int) × Int=>(r06_least_j3 (fun z0 z1 z2 z3=>r06_least_l2 a0 n2 z0 z1 z2 z3) y123 x.1 x.2.1 x.2.2,[eK kD 0 a0,eP 2 0,eP 3 1,eI 4 y123],[(0,(.live 26 [(.bool false),(slK (kInt .u32) []),(.int .i64 0)])),(1,(.live 26 [(.bool x.1),(slK (kInt .u32) x.2.1),(.int .i64 x.2.2)]))])) ?_ ?_
   ·rintro ⟨y132,y133,y134⟩
    dsimp only [r06_least_j3]
    refine .g 7 rfl<|.ag ((IntKind.i64.wrap (y123+1)),y132,y133,y134) [(0,0),(1,1)] rfl
   ·intro h108
    refine .cd rfl (fun _ _=>?_) fun _ _=>?_
    ·refine .g 3 rfl<|.ix rfl rfl<|.g 3 rfl<|.jw (h108 (((a0.getD y123.toNat zAD).M).Neg,((a0.getD y123.toNat zAD).M).Mag,(a0.getD y123.toNat zAD).E)) [(0,0),(1,1)] rfl
    ·refine .g 1 rfl<|.jw (h108 (y124,y125,y126)) [(0,0),(1,1)] rfl
  ·refine .g 4 rfl<|.jw (h56 (y124,y125,y126)) [(0,0),(1,1)] rfl
instance r05_prec_i (a0:Int):PC (r05_prec a0) Tryz.prog 251 [(.int .i64 a0)] (fun r=>(.bool r)):=pc func251 (by kernel_rfl) rfl fun E=>by
 unfold r05_prec
 refine .g 6 rfl<|?_
 refine .cut (fun x:Bool=>(r05_prec_j1 x,[eB 2 x],[])) ?_ ?_
 ·rintro y2
  dsimp only [r05_prec_j1]
  refine .g 2 rfl<|.fi rfl rfl
 ·intro h2
  refine .g 4 rfl<|?_
  refine .gd 5 rfl (fun _=>?_) fun _=>?_
  ·refine .g 5 rfl<|.jw (h2 (decide (a0≤400))) [] rfl
  ·refine .g 5 rfl<|.jw (h2 false) [] rfl
instance r05_cut_i (a0:Bool) (a1:List Int) (a2:Int) (a3:Bool) (a4:Int) (a5:Bool):PC (r05_cut a0 a1 a2 a3 a4 a5) Tryz.prog 254 [(.bool a0),(slK (kInt .u32) a1),(.int .i64 a2),(.bool a3),(.int .i64 a4),(.bool a5)] (fun r=>(.agg (kD.enc (⟨((r).M),(r).E⟩:AD)))):=pc func254 (by kernel_rfl) rfl fun E=>by
 unfold r05_cut
 refine .g 8 rfl<|.p0 rfl rfl fun x20 _=>.g 12 rfl<|?_
 refine .cut (fun x:(List Int) × Int × Bool=>(r05_cut_j1 a0 a5 x.1 x.2.1 x.2.2,[eB 0 a0,eL 1 x.1,eI 2 x.2.1,eB 3 x.2.2,eB 5 a5,eP 12 0],[(0,(.live 26 [(.bool false),(slK (kInt .u32) []),(.int .i64 0)]))])) ?_ ?_
 ·rintro ⟨y26,y27,y28⟩
  dsimp only [r05_cut_j1]
  refine .g 3 rfl<|?_
  refine .cut (fun x:Bool=>(r05_cut_j2 y26 a0 y27 x,[eB 0 a0,eL 1 y26,eI 2 y27,eP 12 0,eB 46 x],[(0,(.live 26 [(.bool false),(slK (kInt .u32) []),(.int .i64 0)]))])) ?_ ?_
  ·rintro y29
   dsimp only [r05_cut_j2]
   refine .g 1 rfl<|?_
   refine .cut (fun x:(List Int)=>(r05_cut_j3 a0 y27 x,[eB 0 a0,eL 1 x,eI 2 y27,eP 12 0],[(0,(.live 26 [(.bool false),(slK (kInt .u32) []),(.int .i64 0)]))])) ?_ ?_
   ·rintro y31
    dsimp only [r05_cut_j3]
    refine .g 7 rfl<|.p0 rfl rfl fun x32 _=>.g 4 rfl<|.fi rfl rfl
   ·intro h15
    refine .cd rfl (fun _ _=>?_) fun _ _=>?_
    ·refine .g 2 rfl<|.st rfl (bs (kInt .u32) [1] rfl rfl) rfl<|.p0 rfl rfl fun x33 _=>.g 2 rfl<|.jw (h15 x33) [(0,0)] rfl
    ·refine .g 1 rfl<|.jw (h15 y26) [(0,0)] rfl
  ·intro h19
   refine .g 3 rfl<|?_
   refine .gd 44 rfl (fun _=>?_) fun _=>?_
   ·refine .g 3 rfl<|.jw (h19 a5) [(0,0)] rfl
   ·refine .g 3 rfl<|.jw (h19 false) [(0,0)] rfl
 ·intro h21
  refine .cd rfl (fun _ _=>?_) fun _ _=>?_
  ·refine .g 4 rfl<|.p0 rfl rfl fun x34 _=>.g 7 rfl<|.p0 rfl rfl fun x35 _=>.g 8 rfl<|?_
   refine .cut (fun x:Bool=>(r05_cut_j4 a0 a5 x34 a2 x20 a4 x,[eB 0 a0,eI 2 a2,eB 3 x,eB 5 a5,eP 12 0,eI 13 (IntKind.i64.wrap (x20-a4)),eL 14 x34],[(0,(.live 26 [(.bool false),(slK (kInt .u32) []),(.int .i64 0)]))])) ?_ ?_
   ·rintro y37
    dsimp only [r05_cut_j4]
    refine .g 13 rfl<|.jw (h21 (x34,(IntKind.i64.wrap (a2+(IntKind.i64.wrap (x20-a4)))),y37)) [(0,0)] rfl
   ·intro h28
    refine .g 3 rfl<|?_
    refine .gd 33 rfl (fun _=>?_) fun _=>?_
    ·refine .g 7 rfl<|.jw (h28 true) [(0,0)] rfl
    ·refine .g 2 rfl<|.p0 rfl rfl fun x38 _=>.g 4 rfl<|.jw (h28 (x38 != 0)) [(0,0)] rfl
  ·refine .g 1 rfl<|.jw (h21 (a1,a2,a3)) [(0,0)] rfl
instance r05_Round_i (a0:AD) (a1:Int) (a2:Bool):PC (r05_Round a0 a1 a2) Tryz.prog 250 [(.agg (kD.enc a0)),(.int .i64 a1),(.bool a2)] (fun r=>(.tup [(.agg (kD.enc (⟨((r.1).M),(r.1).E⟩:AD))),(.int .i64 r.2)])):=pc func250 (by kernel_rfl) rfl fun E=>by
 unfold r05_Round
 refine .g 10 rfl<|.p0 rfl rfl fun x7 _=>.g 5 rfl<|?_
 refine .cut (fun x:Bool=>(r05_Round_j1 a0 a1 a2 x,[eI 1 a1,eB 2 a2,eP 3 0,eP 6 1,eB 17 x],[(0,(.live 26 [(.bool a0.M.Neg),(slK (kInt .u32) a0.M.Mag),(.int .i64 a0.E)])),(1,(.live 26 [(.bool false),(slK (kInt .u32) []),(.int .i64 0)]))])) ?_ ?_
 ·rintro y9
  dsimp only [r05_Round_j1]
  refine .g 1 rfl<|?_
  refine .cd rfl (fun _ _=>?_) fun _ _=>?_
  ·refine .g 9 rfl<|.fi rfl rfl
  ·refine .g 18 rfl<|.p0 rfl rfl fun x10 _=>.p0 rfl rfl fun x11 _=>.g 7 rfl<|.fi rfl rfl
 ·intro h8
  refine .g 4 rfl<|?_
  refine .gd 13 rfl (fun _=>?_) fun _=>?_
  ·refine .g 5 rfl<|.jw (h8 true) [(0,0),(1,1)] rfl
  ·refine .g 1 rfl<|.p0 rfl rfl fun x12 _=>.g 3 rfl<|.jw (h8 (!x12)) [(0,0),(1,1)] rfl
instance r06_Cround_i (a0:AD) (a1:Bool) (a2:Int) (a3:Int):CC (r06_Cround a0 a1 a2 a3) Tryz.prog 226 [(.ptr 0 0),(.agg (kD.enc a0)),(.bool a1)] [(.live 171 [(.int .i64 a2),(.int .i64 a3)])] (fun r=>(.agg (kD.enc (⟨((r.1).M),(r.1).E⟩:AD)))) (fun r=>[(.live 171 [(.int .i64 a2),(.int .i64 r.2)])]):=cc func226 (by kernel_rfl) rfl fun E=>by
 unfold r06_Cround
 refine .g 16 rfl<|?_
 refine .cd rfl (fun _ _=>?_) fun _ _=>?_
 ·refine .g 8 rfl<|.fi rfl rfl
 ·refine .g 10 rfl<|.p0 rfl rfl fun x3 _=>.g 6 rfl<|.dn (by kernel_rfl)<|.g 5 rfl<|.bind fun x4 h4=>.st rfl (cl (CC.h h4) [0] [] [true] rfl (.p rfl<|.i<|.nil) (.p rfl (.i<|.i<|.nil) .nil) fnil (.cons (.v (.i<|.i<|.nil)) .nil) (.bool _) (.turned .nil) rfl) rfl<|.g 9 rfl<|.fi rfl rfl
instance r06_greatest_i (a0:List AD):PC (r06_greatest a0) Tryz.prog 228 [(slK kD a0)] (fun r=>(.agg (kD.enc (⟨((r).M),(r).E⟩:AD)))):=pc func228 (by kernel_rfl) rfl fun E=>by
 unfold r06_greatest
 refine .g 8 rfl<|.ix rfl rfl<|.g 11 rfl<|?_
 refine .cut (fun x:Bool × (List Int) × Int=>(r06_greatest_j1 x.1 x.2.1 x.2.2,[eP 2 0,eP 3 1],[(0,(.live 26 [(.bool false),(slK (kInt .u32) []),(.int .i64 0)])),(1,(.live 26 [(.bool x.1),(slK (kInt .u32) x.2.1),(.int .i64 x.2.2)]))])) ?_ ?_
 ·rintro ⟨y100,y101,y102⟩
  dsimp only [r06_greatest_j1]
  refine .g 8 rfl<|.fi rfl rfl
 ·intro h56
  refine .g 1 rfl<|?_
  refine .lp (fun n (x:Int × Bool × (List Int) × Int)=>r06_greatest_l2 a0 n x.1 x.2.1 x.2.2.1 x.2.2.2) (fun x=>([eK kD 0 a0,eP 2 0,eP 3 1,eI 4 x.1],[(0,(.live 26 [(.bool false),(slK (kInt .u32) []),(.int .i64 0)])),(1,(.live 26 [(.bool x.2.1),(slK (kInt .u32) x.2.2.1),(.int .i64 x.2.2.2)]))])) (1,((a0.getD 0 zAD).M).Neg,((a0.getD 0 zAD).M).Mag,(a0.getD 0 zAD).E) [(0,0),(1,1)] rfl ?_
  rintro n2 ⟨y123,y124,y125,y126⟩
  try dsimp only
  rw [r06_greatest_l2]
  refine .g 5 rfl<|.ln rfl rfl<|.g 3 rfl<|?_
  refine .cd rfl (fun _ _=>?_) fun _ _=>?_
  ·refine .g 8 rfl<|.ix rfl rfl<|.g 2 rfl<|.p0 rfl rfl fun x131 _=>.g 1 rfl<|.dn (by kernel_rfl)<|.g 1 rfl<|?_
   refine .cut (fun x:Bool × (List Int) × Int=>(r06_greatest_j3 (fun z0 z1 z2 z3=>r06_greatest_l2 a0 n2 z0 z1 z2 z3) y123 x.1 x.2.1 x.2.2,[eK kD 0 a0,eP 2 0,eP 3 1,eI 4 y123],[(0,(.live 26 [(.bool false),(slK (kInt .u32) []),(.int .i64 0)])),(1,(.live 26 [(.bool x.1),(slK (kInt .u32) x.2.1),(.int .i64 x.2.2)]))])) ?_ ?_
   ·rintro ⟨y132,y133,y134⟩
    dsimp only [r06_greatest_j3]
    refine .g 7 rfl<|.ag ((IntKind.i64.wrap (y123+1)),y132,y133,y134) [(0,0),(1,1)] rfl
   ·intro h108
    refine .cd rfl (fun _ _=>?_) fun _ _=>?_
    ·refine .g 3 rfl<|.ix rfl rfl<|.g 3 rfl<|.jw (h108 (((a0.getD y123.toNat zAD).M).Neg,((a0.getD y123.toNat zAD).M).Mag,(a0.getD y123.toNat zAD).E)) [(0,0),(1,1)] rfl
    ·refine .g 1 rfl<|.jw (h108 (y124,y125,y126)) [(0,0),(1,1)] rfl
  ·refine .g 4 rfl<|.jw (h56 (y124,y125,y126)) [(0,0),(1,1)] rfl
instance r06_CMul_i (a0:AI) (a1:AI) (a2:Int) (a3:Int):CC (r06_CMul a0 a1 a2 a3) Tryz.prog 165 [(.ptr 0 0),(.agg (kI.enc a0)),(.agg (kI.enc a1))] [(.live 171 [(.int .i64 a2),(.int .i64 a3)])] (fun r=>(.agg (kI.enc (⟨⟨(((r.1).Lo).M),((r.1).Lo).E⟩,⟨(((r.1).Hi).M),((r.1).Hi).E⟩⟩:AI)))) (fun r=>[(.live 171 [(.int .i64 a2),(.int .i64 r.2)])]):=cc func165 (by kernel_rfl) rfl fun E=>by
 unfold r06_CMul
 refine .g 13 rfl<|.st rfl (bs kI [a0,a1] rfl rfl) rfl<|.bind fun x45 h1=>.st rfl (cl (CC.h h1) [0] [] [true] rfl (.p rfl<|.l<|.nil) (.p rfl (.i<|.i<|.nil) .nil) fnil (.cons (.v (.i<|.i<|.nil)) .nil) (.bool _) (.turned .nil) rfl) rfl<|.g 3 rfl<|?_
 refine .cd rfl (fun _ _=>?_) fun _ _=>?_
 ·refine .g 8 rfl<|.fi rfl rfl
 ·refine .g 12 rfl<|.st rfl (bs kD [a0.Lo,a0.Lo,a0.Hi,a0.Hi] rfl rfl) rfl<|.g 13 rfl<|.st rfl (bs kD [a1.Lo,a1.Hi,a1.Lo,a1.Hi] rfl rfl) rfl<|.g 14 rfl<|?_
  refine .cut (fun x:Int × (List AD)=>(r06_CMul_j1 a2 x.1 x.2,[eP 0 0,eP 6 3,(9,some (grA kD 4 x.2))],[(0,(.live 171 [(.int .i64 a2),(.int .i64 x.1)])),(3,(.live 37 [(.bool false),(slK (kInt .u32) []),(.int .i64 0),(.bool false),(slK (kInt .u32) []),(.int .i64 0)])),(4,(grV kD 26 x.2))])) ?_ ?_
  ·rintro ⟨y64,y65⟩
   dsimp only [r06_CMul_j1]
   refine .g 2 rfl<|?_
   refine .weak ?_ (fun a w h=>Conc.gr_still kD h 9 4 26 y65 rfl rfl)
   refine .g 3 rfl<|.p0 rfl rfl fun x66 _=>.bind fun x67 h51=>.st rfl (cl (CC.h h51) [0] [] [true] rfl (.p rfl<|.a kD<|.b<|.nil) (.p rfl (.i<|.i<|.nil) .nil) fnil (.cons (.v (.i<|.i<|.nil)) .nil) (ren_agg (K:=kD) _) (.turned .nil) rfl) rfl<|.g 8 rfl<|.p0 rfl rfl fun x68 _=>.bind fun x69 h53=>.st rfl (cl (CC.h h53) [0] [] [true] rfl (.p rfl<|.a kD<|.b<|.nil) (.p rfl (.i<|.i<|.nil) .nil) fnil (.cons (.v (.i<|.i<|.nil)) .nil) (ren_agg (K:=kD) _) (.turned .nil) rfl) rfl<|.g 9 rfl<|.bind fun x70 h54=>.st rfl (cl (CC.h h54) [0] [] [false] rfl (.p rfl<|.a kD<|.a kD<|.nil) (.p rfl (.i<|.i<|.nil) .nil) fnil (.cons (.v (.i<|.i<|.nil)) .nil) (ren_agg (K:=kI) _) (.kept rfl .nil) rfl) rfl<|.g 4 rfl<|.fi rfl rfl
  ·intro h55
   refine .g 1 rfl<|?_
   refine .weak ?_ (fun a w h=>Conc.gr_nil kD h 9 4 26 rfl)
   refine .lo (fun n (x:Int × Int × (List AD))=>r06_CMul_l2 a0 a1 a2 n x.1 x.2.1 x.2.2) (fun x=>([eP 0 0,eP 6 3,eK kD 7 [a0.Lo,a0.Lo,a0.Hi,a0.Hi],eK kD 8 [a1.Lo,a1.Hi,a1.Lo,a1.Hi],(9,some (grA kD 4 x.2.2)),eI 10 x.1],[(0,(.live 171 [(.int .i64 a2),(.int .i64 x.2.1)])),(3,(.live 37 [(.bool false),(slK (kInt .u32) []),(.int .i64 0),(.bool false),(slK (kInt .u32) []),(.int .i64 0)])),(4,(grV kD 26 x.2.2))])) (0,x45.2,[]) rfl (fun hE=>jn (m:=1) [(0,0),(3,3),(4,4)] hE (.p rfl rfl<|.p rfl rfl<|.l rfl<|.l rfl<|.g rfl (ren_gr (K:=kD) (by rfl) [])<|.i rfl<|.nil) (.v rfl (.i<|.i<|.nil)<|.v rfl (.b<|.l<|.i<|.b<|.l<|.i<|.nil)<|.cons (.refl _) (renV_gr (K:=kD) 26 [])<|.nil) rfl) ?_
   rintro n2 ⟨y82,y83,y84⟩
   try dsimp only
   rw [r06_CMul_l2]
   refine .g 7 rfl<|?_
   refine .cd rfl (fun _ _=>?_) fun _ _=>?_
   ·refine .g 8 rfl<|.ix rfl rfl<|.g 3 rfl<|.ix rfl rfl<|.g 1 rfl<|.p0 rfl rfl fun x87 _=>.g 6 rfl<|.dn (by kernel_rfl)<|.g 6 rfl<|.bind fun x88 h98=>.st rfl (cl (CC.h h98) [0] [] [true] rfl (.p rfl<|.i<|.nil) (.p rfl (.i<|.i<|.nil) .nil) fnil (.cons (.v (.i<|.i<|.nil)) .nil) (.bool _) (.turned .nil) rfl) rfl<|.g 3 rfl<|?_
    refine .cd rfl (fun _ _=>?_) fun _ _=>?_
    ·refine .g 13 rfl<|.fi rfl rfl
    ·refine .g 5 rfl<|.st rfl (bs kD [(⟨((x87.1).M),(x87.1).E⟩:AD)] rfl rfl) rfl<|.guard fun h101=>.sv (.row 2 kD.sz 0 (((y84++[(⟨((x87.1).M),(x87.1).E⟩:AD)])).length)) [(2,(rwK kD 26 (y84++[(⟨((x87.1).M),(x87.1).E⟩:AD)]))),(4,.dead)] rfl (snd_appendK_gr kD _ _ _ _ _ 4 2 y84 [(⟨((x87.1).M),(x87.1).E⟩:AD)] rfl underlying90 ze26 sb26 rfl rfl rfl rfl rfl rfl rfl h101) rfl<|.g 9 rfl<|?_
     refine .weak ?_ (fun a w h=>Conc.gr_row kD h 9 2 26 (y84++[(⟨((x87.1).M),(x87.1).E⟩:AD)]) rfl rfl (by first | omega | (simp only [List.length_append,List.length_cons,List.length_set]; omega) | simp))
     exact .ao ((IntKind.i64.wrap (y82+1)),x88.2,(y84++[(⟨((x87.1).M),(x87.1).E⟩:AD)])) rfl fun hE=>jn (m:=1) [(0,0),(3,3),(2,4)] hE (.p rfl rfl<|.p rfl rfl<|.l rfl<|.l rfl<|.g rfl (ren_gr (K:=kD) (by rfl) (y84++[(⟨((x87.1).M),(x87.1).E⟩:AD)]))<|.i rfl<|.nil) (.v rfl (.i<|.i<|.nil)<|.v rfl (.b<|.l<|.i<|.b<|.l<|.i<|.nil)<|.cons (.refl _) (renV_gr (K:=kD) 26 (y84++[(⟨((x87.1).M),(x87.1).E⟩:AD)]))<|.nil) rfl
   ·refine .g 4 rfl<|.jo (h55 (y83,y84)) rfl fun hE=>jn (m:=1) [(0,0),(3,3),(4,4)] hE (.p rfl rfl<|.p rfl rfl<|.g rfl (ren_gr (K:=kD) (by rfl) y84)<|.nil) (.v rfl (.i<|.i<|.nil)<|.v rfl (.b<|.l<|.i<|.b<|.l<|.i<|.nil)<|.cons (.refl _) (renV_gr (K:=kD) 26 y84)<|.nil) rfl
instance r05_upMag_i (a0:List Int) (a1:Int):PC (r05_upMag a0 a1) Tryz.prog 252 [(slK (kInt .u32) a0),(.int .i64 a1)] (fun r=>(slK (kInt .u32) r)):=pc func252 (by kernel_rfl) rfl fun E=>by
 unfold r05_upMag
 refine .g 2 rfl<|.st rfl (as0 rfl) rfl<|.g 7 rfl<|.p0 rfl rfl fun x2 _=>.sv (slK (kInt .u32) ((x2).Mag)) [] rfl (snd_field_sca _ _ _ _ _ _ _ _ rfl underlying24 rfl rfl rfl sc22 rfl rfl rfl (Nat.le_of_ble_eq_true rfl)) rfl<|.g 4 rfl<|.fi rfl rfl
end Go.Proofs.YtjffljhmjdljeaaGreat.Gen
