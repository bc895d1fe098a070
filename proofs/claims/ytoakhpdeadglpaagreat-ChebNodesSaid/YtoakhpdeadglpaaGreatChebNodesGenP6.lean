/- Printed by geng.py: a call does what the plain function says. -/
import Derived.Test.YtoakhpdeadglpaaGreatChebNodesGenP5
set_option linter.unusedVariables false
set_option linter.unusedSimpArgs false
set_option maxRecDepth 4000
set_option synthInstance.maxSize 4000
set_option synthInstance.maxHeartbeats 400000
namespace Go.Proofs.YtoakhpdeadglpaaGreat.Gen
open Go Go.Abs Go.Proofs Go.Proofs.Tryz
instance r01_Mul_i (a0:List Int) (a1:List Int):PC (r01_Mul a0 a1) Tryz.prog 299 [(slK (kInt .u32) a0),(slK (kInt .u32) a1)] (fun r=>(slK (kInt .u32) r)):=pc func299 (by kernel_rfl) rfl fun E=>by
 unfold r01_Mul
 refine .g 2 rfl<|.st rfl (as0 rfl) rfl<|.g 5 rfl<|.ln rfl rfl<|.g 1 rfl<|.ln rfl rfl<|.g 1 rfl<|.guard fun h1=>.sv (.row 0 (kInt .u32).sz 0 (((List.replicate ((IntKind.i64.wrap ((a0.length:Int)+(a1.length:Int))).toNat) (kInt .u32).z)).length)) [(0,(rwK (kInt .u32) 117 (List.replicate ((IntKind.i64.wrap ((a0.length:Int)+(a1.length:Int))).toNat) (kInt .u32).z)))] rfl (snd_makeK (kInt .u32) _ _ _ _ _ 0 _ _ _ rfl underlying22 ze117 sb117 (by decide) rfl rfl rfl rfl rfl h1) rfl<|.g 9 rfl<|?_
 refine .cut (fun x:(List Int)=>(r01_Mul_j1 x,[(5,some (.row 0 (kInt .u32).sz 0 ((x).length)))],[(0,(rwK (kInt .u32) 117 x))])) ?_ ?_
 ·rintro y276
  dsimp only [r01_Mul_j1]
  refine .g 2 rfl<|?_
  refine .weak ?_ (fun a w h=>Conc.freezeK (kInt .u32) h 5 0 0 ((y276).length) 117 y276 rfl rfl (by omega))
  refine .weak ?_ (fun a w h=>take_all h)
  refine .g 2 rfl<|.p0 rfl rfl fun x277 _=>.g 4 rfl<|.fi rfl rfl
 ·intro h375
  refine .g 1 rfl<|?_
  refine .lp (fun n (x:Int × (List Int))=>r01_Mul_l2 a0 a1 n x.1 x.2) (fun x=>([eL 0 a0,eL 1 a1,(5,some (.row 0 (kInt .u32).sz 0 ((x.2).length))),eI 6 x.1],[(0,(rwK (kInt .u32) 117 x.2))])) (0,(List.replicate ((IntKind.i64.wrap ((a0.length:Int)+(a1.length:Int))).toNat) (kInt .u32).z)) [(0,0)] rfl ?_
  rintro n2 ⟨y338,y339⟩
  try dsimp only
  rw [r01_Mul_l2]
  refine .g 5 rfl<|.ln rfl rfl<|.g 3 rfl<|?_
  refine .cd rfl (fun _ _=>?_) fun _ _=>?_
  ·refine .g 3 rfl<|?_
   refine .cut (fun x:(List Int)=>(r01_Mul_j3 (fun z0 z1=>r01_Mul_l2 a0 a1 n2 z0 z1) y338 x,[eL 0 a0,eL 1 a1,(5,some (.row 0 (kInt .u32).sz 0 ((x).length))),eI 6 y338],[(0,(rwK (kInt .u32) 117 x))])) ?_ ?_
   ·rintro y354
    dsimp only [r01_Mul_j3]
    refine .g 6 rfl<|.ag ((IntKind.i64.wrap (y338+1)),y354) [(0,0)] rfl
   ·intro h687
    refine .g 12 rfl<|?_
    refine .cut (fun x:Int × (List Int)=>(r01_Mul_j4 y338 a1 (fun z0 z1=>r01_Mul_l2 a0 a1 n2 z0 z1) x.1 x.2,[eL 0 a0,eL 1 a1,(5,some (.row 0 (kInt .u32).sz 0 ((x.2).length))),eI 6 y338,eX 7 x.1],[(0,(rwK (kInt .u32) 117 x.2))])) ?_ ?_
    ·rintro ⟨y361,y362⟩
     dsimp only [r01_Mul_j4]
     refine .g 5 rfl<|.ln rfl rfl<|.g 3 rfl<|.guard fun h718=>?_
     obtain ⟨h7181,h7182⟩:=h718
     refine .sv (.rptr 0 (kInt .u32).sz ((IntKind.i64.wrap (y338+(a1.length:Int))).toNat) 0) [] rfl (idx_r (snd_index_r _ _ _ _ _ 0 0 ((y362).length) _ (IntKind.i64.wrap (y338+(a1.length:Int))) rfl underlying22 si117 rfl rfl rfl rfl h7181 (by omega)) (Nat.zero_add _)) rfl<|.sm [(0,(rwK (kInt .u32) 117 ((y362).set ((IntKind.i64.wrap (y338+(a1.length:Int))).toNat) (IntKind.u32.wrap y361))))] rfl (snd_storeK_sca (kInt .u32) _ _ _ 0 ((IntKind.i64.wrap (y338+(a1.length:Int))).toNat) _ _ (IntKind.u32.wrap y361) _ rfl rfl rfl sc117 rfl rfl rfl rfl rfl rfl (by first | omega | (simp only [List.length_set]; omega))) rfl<|?_
     refine .weak ?_ (fun a w h=>Conc.relen h 5 ((((y362).set ((IntKind.i64.wrap (y338+(a1.length:Int))).toNat) (IntKind.u32.wrap y361))).length) rfl List.length_set.symm)
     refine .g 2 rfl<|.jw (h687 ((y362).set ((IntKind.i64.wrap (y338+(a1.length:Int))).toNat) (IntKind.u32.wrap y361))) [(0,0)] rfl
    ·intro h719
     refine .g 1 rfl<|?_
     refine .lp (fun n (x:Int × Int × (List Int))=>r01_Mul_l5 a1 y338 a0 (fun z0 z1=>r01_Mul_l2 a0 a1 n2 z0 z1) n x.1 x.2.1 x.2.2) (fun x=>([eL 0 a0,eL 1 a1,(5,some (.row 0 (kInt .u32).sz 0 ((x.2.2).length))),eI 6 y338,eX 7 x.1,eI 8 x.2.1],[(0,(rwK (kInt .u32) 117 x.2.2))])) (0,0,y339) [(0,0)] rfl ?_
     rintro n5 ⟨y366,y367,y368⟩
     try dsimp only
     rw [r01_Mul_l5]
     refine .g 5 rfl<|.ln rfl rfl<|.g 3 rfl<|?_
     refine .cd rfl (fun _ _=>?_) fun _ _=>?_
     ·refine .g 8 rfl<|.ix rfl rfl<|.g 4 rfl<|.ix rfl rfl<|.g 7 rfl<|.guard fun h748=>?_
      obtain ⟨h7481,h7482⟩:=h748
      refine .sv (.rptr 0 (kInt .u32).sz ((IntKind.i64.wrap (y338+y367)).toNat) 0) [] rfl (idx_r (snd_index_r _ _ _ _ _ 0 0 ((y368).length) _ (IntKind.i64.wrap (y338+y367)) rfl underlying22 si117 rfl rfl rfl rfl h7481 (by omega)) (Nat.zero_add _)) rfl<|.sv (.int .u32 ((y368).getD ((IntKind.i64.wrap (y338+y367)).toNat) (kInt .u32).z)) [] rfl (snd_loadK_sca (kInt .u32) _ _ 0 ((IntKind.i64.wrap (y338+y367)).toNat) 0 _ _ rfl sc117 rfl rfl rfl rfl (by first | omega | (simp only [List.length_set]; omega)) (by decide)) rfl<|.g 5 rfl<|.dn (by kernel_rfl)<|.g 9 rfl<|.guard fun h749=>?_
      obtain ⟨h7491,h7492⟩:=h749
      refine .sv (.rptr 0 (kInt .u32).sz ((IntKind.i64.wrap (y338+y367)).toNat) 0) [] rfl (idx_r (snd_index_r _ _ _ _ _ 0 0 ((y368).length) _ (IntKind.i64.wrap (y338+y367)) rfl underlying22 si117 rfl rfl rfl rfl h7491 (by omega)) (Nat.zero_add _)) rfl<|.sm [(0,(rwK (kInt .u32) 117 ((y368).set ((IntKind.i64.wrap (y338+y367)).toNat) (IntKind.u32.wrap (IntKind.u64.wrap ((IntKind.u64.wrap ((IntKind.u64.wrap ((IntKind.u64.wrap (a0.getD y338.toNat (kInt .u32).z))*(IntKind.u64.wrap (a1.getD y367.toNat (kInt .u32).z))))+(IntKind.u64.wrap ((y368).getD ((IntKind.i64.wrap (y338+y367)).toNat) (kInt .u32).z))))+y366))))))] rfl (snd_storeK_sca (kInt .u32) _ _ _ 0 ((IntKind.i64.wrap (y338+y367)).toNat) _ _ (IntKind.u32.wrap (IntKind.u64.wrap ((IntKind.u64.wrap ((IntKind.u64.wrap ((IntKind.u64.wrap (a0.getD y338.toNat (kInt .u32).z))*(IntKind.u64.wrap (a1.getD y367.toNat (kInt .u32).z))))+(IntKind.u64.wrap ((y368).getD ((IntKind.i64.wrap (y338+y367)).toNat) (kInt .u32).z))))+y366))) _ rfl rfl rfl sc117 rfl rfl rfl rfl rfl rfl (by first | omega | (simp only [List.length_set]; omega))) rfl<|?_
      refine .weak ?_ (fun a w h=>Conc.relen h 5 ((((y368).set ((IntKind.i64.wrap (y338+y367)).toNat) (IntKind.u32.wrap (IntKind.u64.wrap ((IntKind.u64.wrap ((IntKind.u64.wrap ((IntKind.u64.wrap (a0.getD y338.toNat (kInt .u32).z))*(IntKind.u64.wrap (a1.getD y367.toNat (kInt .u32).z))))+(IntKind.u64.wrap ((y368).getD ((IntKind.i64.wrap (y338+y367)).toNat) (kInt .u32).z))))+y366))))).length) rfl List.length_set.symm)
      refine .g 14 rfl<|.ag ((shrI .u64 (IntKind.u64.wrap ((IntKind.u64.wrap ((IntKind.u64.wrap ((IntKind.u64.wrap (a0.getD y338.toNat (kInt .u32).z))*(IntKind.u64.wrap (a1.getD y367.toNat (kInt .u32).z))))+(IntKind.u64.wrap ((y368).getD ((IntKind.i64.wrap (y338+y367)).toNat) (kInt .u32).z))))+y366)) 32),(IntKind.i64.wrap (y367+1)),((y368).set ((IntKind.i64.wrap (y338+y367)).toNat) (IntKind.u32.wrap (IntKind.u64.wrap ((IntKind.u64.wrap ((IntKind.u64.wrap ((IntKind.u64.wrap (a0.getD y338.toNat (kInt .u32).z))*(IntKind.u64.wrap (a1.getD y367.toNat (kInt .u32).z))))+(IntKind.u64.wrap ((y368).getD ((IntKind.i64.wrap (y338+y367)).toNat) (kInt .u32).z))))+y366))))) [(0,0)] rfl
     ·refine .g 4 rfl<|.jw (h719 (y366,y368)) [(0,0)] rfl
  ·refine .g 4 rfl<|.jw (h375 y339) [(0,0)] rfl
instance r01_Sub_i (a0:List Int) (a1:List Int):PC (r01_Sub a0 a1) Tryz.prog 295 [(slK (kInt .u32) a0),(slK (kInt .u32) a1)] (fun r=>(.tup [(slK (kInt .u32) r.1),(.bool r.2)])):=pc func295 (by kernel_rfl) rfl fun E=>by
 unfold r01_Sub
 refine .g 11 rfl<|.p0 rfl rfl fun x40 _=>.g 3 rfl<|?_
 refine .cd rfl (fun _ _=>?_) fun _ _=>?_
 ·refine .g 8 rfl<|.fj rfl rfl (by exact .tup (.cons AVle.nil (.cons (AVle.refl _) .nil)))
 ·refine .g 18 rfl<|?_
  refine .cut (fun x:(List Int)=>(r01_Sub_j1 x,[(6,some (grA (kInt .u32) 0 x))],[(0,(grV (kInt .u32) 117 x))])) ?_ ?_
  ·rintro y59
   dsimp only [r01_Sub_j1]
   refine .g 2 rfl<|?_
   refine .weak ?_ (fun a w h=>Conc.gr_still (kInt .u32) h 6 0 117 y59 rfl rfl)
   refine .g 2 rfl<|.p0 rfl rfl fun x60 _=>.g 5 rfl<|.fi rfl rfl
  ·intro h29
   refine .g 1 rfl<|?_
   refine .weak ?_ (fun a w h=>Conc.gr_nil (kInt .u32) h 6 0 117 rfl)
   refine .lo (fun n (x:Int × Int × (List Int))=>r01_Sub_l2 a0 a1 n x.1 x.2.1 x.2.2) (fun x=>([eL 0 a0,eL 1 a1,(6,some (grA (kInt .u32) 0 x.2.2)),eX 7 x.1,eI 8 x.2.1],[(0,(grV (kInt .u32) 117 x.2.2))])) (0,0,[]) rfl (fun hE=>jn (m:=0) [(0,0)] hE (.l rfl<|.l rfl<|.g rfl (ren_gr (K:=(kInt .u32)) (by rfl) [])<|.i rfl<|.i rfl<|.nil) (.cons (.refl _) (renV_gr (K:=(kInt .u32)) 117 [])<|.nil) rfl) ?_
   rintro n2 ⟨y72,y73,y74⟩
   try dsimp only
   rw [r01_Sub_l2]
   refine .g 5 rfl<|.ln rfl rfl<|.g 3 rfl<|?_
   refine .cd rfl (fun _ _=>?_) fun _ _=>?_
   ·refine .g 8 rfl<|.p0 rfl rfl fun x77 _=>.g 3 rfl<|.p0 rfl rfl fun x78 _=>.g 11 rfl<|.st rfl (bs (kInt .u32) [(IntKind.u32.wrap (IntKind.u64.wrap ((IntKind.u64.wrap ((IntKind.u64.wrap (x77+4294967296))-x78))-y72)))] rfl rfl) rfl<|.guard fun h53=>.sv (.row 1 (kInt .u32).sz 0 (((y74++[(IntKind.u32.wrap (IntKind.u64.wrap ((IntKind.u64.wrap ((IntKind.u64.wrap (x77+4294967296))-x78))-y72)))])).length)) [(1,(rwK (kInt .u32) 117 (y74++[(IntKind.u32.wrap (IntKind.u64.wrap ((IntKind.u64.wrap ((IntKind.u64.wrap (x77+4294967296))-x78))-y72)))]))),(0,.dead)] rfl (snd_appendK_gr (kInt .u32) _ _ _ _ _ 0 1 y74 [(IntKind.u32.wrap (IntKind.u64.wrap ((IntKind.u64.wrap ((IntKind.u64.wrap (x77+4294967296))-x78))-y72)))] rfl underlying22 ze117 sb117 rfl rfl rfl rfl rfl rfl rfl h53) rfl<|.g 16 rfl<|?_
    refine .weak ?_ (fun a w h=>Conc.gr_row (kInt .u32) h 6 1 117 (y74++[(IntKind.u32.wrap (IntKind.u64.wrap ((IntKind.u64.wrap ((IntKind.u64.wrap (x77+4294967296))-x78))-y72)))]) rfl rfl (by first | omega | (simp only [List.length_append,List.length_cons,List.length_set]; omega) | simp))
    exact .ao ((IntKind.u64.wrap (1-(shrI .u64 (IntKind.u64.wrap ((IntKind.u64.wrap ((IntKind.u64.wrap (x77+4294967296))-x78))-y72)) 32))),(IntKind.i64.wrap (y73+1)),(y74++[(IntKind.u32.wrap (IntKind.u64.wrap ((IntKind.u64.wrap ((IntKind.u64.wrap (x77+4294967296))-x78))-y72)))])) rfl fun hE=>jn (m:=0) [(1,0)] hE (.l rfl<|.l rfl<|.g rfl (ren_gr (K:=(kInt .u32)) (by rfl) (y74++[(IntKind.u32.wrap (IntKind.u64.wrap ((IntKind.u64.wrap ((IntKind.u64.wrap (x77+4294967296))-x78))-y72)))]))<|.i rfl<|.i rfl<|.nil) (.cons (.refl _) (renV_gr (K:=(kInt .u32)) 117 (y74++[(IntKind.u32.wrap (IntKind.u64.wrap ((IntKind.u64.wrap ((IntKind.u64.wrap (x77+4294967296))-x78))-y72)))]))<|.nil) rfl
   ·refine .g 4 rfl<|.jo (h29 y74) rfl fun hE=>jn (m:=0) [(0,0)] hE (.g rfl (ren_gr (K:=(kInt .u32)) (by rfl) y74)<|.nil) (.cons (.refl _) (renV_gr (K:=(kInt .u32)) 117 y74)<|.nil) rfl
instance r03_DivMod_i (a0:List Int) (a1:List Int):PC (r03_DivMod a0 a1) Tryz.prog 285 [(slK (kInt .u32) a0),(slK (kInt .u32) a1)] (fun r=>(.tup [(slK (kInt .u32) r.1),(slK (kInt .u32) r.2.1),(.bool r.2.2)])):=pc func285 (by kernel_rfl) rfl fun E=>by
 unfold r03_DivMod
 refine .g 10 rfl<|.p0 rfl rfl fun x694 _=>.g 7 rfl<|.ln rfl rfl<|.g 3 rfl<|?_
 refine .cd rfl (fun _ _=>?_) fun _ _=>?_
 ·refine .g 9 rfl<|.fj rfl rfl (by exact .tup (.cons AVle.nil (.cons AVle.nil (.cons (AVle.refl _) .nil))))
 ·refine .g 6 rfl<|.ln rfl rfl<|.g 3 rfl<|?_
  refine .cd rfl (fun _ _=>?_) fun _ _=>?_
  ·refine .g 4 rfl<|.ix rfl rfl<|.g 2 rfl<|.p0 rfl rfl fun x695 _=>.g 18 rfl<|.fi rfl rfl
  ·refine .g 5 rfl<|.ln rfl rfl<|.g 2 rfl<|.p0 rfl rfl fun x696 _=>.g 8 rfl<|.p0 rfl rfl fun x697 _=>.g 10 rfl<|.p0 rfl rfl fun x698 _=>.g 10 rfl<|.ln rfl rfl<|.guard fun h11=>.sv (.row 0 (kInt .u32).sz 0 (((List.replicate x698.1.length (kInt .u32).z)).length)) [(0,(rwK (kInt .u32) 117 (List.replicate x698.1.length (kInt .u32).z)))] rfl (snd_makeK (kInt .u32) _ _ _ _ _ 0 _ _ _ rfl underlying22 ze117 sb117 (by decide) rfl rfl rfl rfl rfl h11) rfl<|.g 12 rfl<|.ln rfl rfl<|?_
   refine .g 4 rfl<|?_
   refine .cut (fun x:(List Int) × (List Int)=>(r03_DivMod_j1 x694 x696 x.1 x.2,[eI 10 (IntKind.i64.wrap ((IntKind.i64.wrap (32*(x694.length:Int)))-x696)),(13,some (.row 0 (kInt .u32).sz 0 ((x.2).length))),eL 14 x.1],[(0,(rwK (kInt .u32) 117 x.2))])) ?_ ?_
   ·rintro ⟨y1041,y1042⟩
    dsimp only [r03_DivMod_j1]
    refine .g 2 rfl<|?_
    refine .weak ?_ (fun a w h=>Conc.freezeK (kInt .u32) h 13 0 0 ((y1042).length) 117 y1042 rfl rfl (by omega))
    refine .weak ?_ (fun a w h=>take_all h)
    refine .g 2 rfl<|.p0 rfl rfl fun x1043 _=>.g 2 rfl<|.p0 rfl rfl fun x1044 _=>.g 6 rfl<|.fi rfl rfl
   ·intro h356
    refine .g 1 rfl<|?_
    refine .weak ?_ (fun a w h=>Conc.noV (Conc.put1 (x:=0) h (t:=14) (v':=slK (kInt .u32) []) rfl rfl AVle.nil (.refl _)))
    refine .lp (fun n (x:(List Int) × Int × (List Int))=>r03_DivMod_l2 x698 x697 x694 x696 n x.1 x.2.1 x.2.2) (fun x=>([eL 7 x697.1,eI 10 (IntKind.i64.wrap ((IntKind.i64.wrap (32*(x694.length:Int)))-x696)),eL 11 x698.1,(13,some (.row 0 (kInt .u32).sz 0 ((x.2.2).length))),eL 14 x.1,eI 15 x.2.1],[(0,(rwK (kInt .u32) 117 x.2.2))])) ([],(IntKind.i64.wrap ((x698.1.length:Int)-1)),(List.replicate x698.1.length (kInt .u32).z)) [(0,0)] rfl ?_
    rintro n2 ⟨y1272,y1273,y1274⟩
    try dsimp only
    rw [r03_DivMod_l2]
    refine .g 7 rfl<|?_
    refine .cd rfl (fun _ _=>?_) fun _ _=>?_
    ·refine .g 3 rfl<|?_
     refine .cut (fun x:(List Int) × (List Int)=>(r03_DivMod_j3 (fun z0 z1 z2=>r03_DivMod_l2 x698 x697 x694 x696 n2 z0 z1 z2) y1273 x.1 x.2,[eL 7 x697.1,eI 10 (IntKind.i64.wrap ((IntKind.i64.wrap (32*(x694.length:Int)))-x696)),eL 11 x698.1,(13,some (.row 0 (kInt .u32).sz 0 ((x.2).length))),eL 14 x.1,eI 15 y1273],[(0,(rwK (kInt .u32) 117 x.2))])) ?_ ?_
     ·rintro ⟨y1330,y1331⟩
      dsimp only [r03_DivMod_j3]
      refine .g 6 rfl<|.ag (y1330,(IntKind.i64.wrap (y1273-1)),y1331) [(0,0)] rfl
     ·intro h643
      refine .g 5 rfl<|.ix rfl rfl<|.g 1 rfl<|.sv (.row 1 (kInt .u32).sz 0 (([(x698.1.getD y1273.toNat (kInt .u32).z)]).length)) [(1,(rwK (kInt .u32) 117 [(x698.1.getD y1273.toNat (kInt .u32).z)]))] rfl (snd_buildSliceK_row (kInt .u32) _ _ 1 1 _ _ [(0,(.int .u32 (x698.1.getD y1273.toNat (kInt .u32).z)))] [(x698.1.getD y1273.toNat (kInt .u32).z)] rfl underlying22 ze117 si117 rfl rfl rfl rfl (by decide) (by decide) (by decide) rfl rfl rfl) rfl<|.g 1 rfl<|.guard fun h645=>.sv (.row 2 (kInt .u32).sz 0 ((([(x698.1.getD y1273.toNat (kInt .u32).z)]++y1272)).length)) [(2,(rwK (kInt .u32) 117 ([(x698.1.getD y1273.toNat (kInt .u32).z)]++y1272))),(1,.dead)] rfl (snd_appendK0 (kInt .u32) _ _ _ _ _ 1 2 [(x698.1.getD y1273.toNat (kInt .u32).z)] y1272 rfl underlying22 ze117 sb117 rfl rfl rfl rfl rfl rfl h645) rfl<|?_
      refine .weak ?_ (fun a w h=>Conc.freezeK (kInt .u32) h 72 2 0 ((([(x698.1.getD y1273.toNat (kInt .u32).z)]++y1272)).length) 117 ([(x698.1.getD y1273.toNat (kInt .u32).z)]++y1272) rfl rfl (by omega))
      refine .weak ?_ (fun a w h=>take_all h)
      refine .p0 rfl rfl fun x1332 _=>.g 7 rfl<|.p0 rfl rfl fun x1333 _=>.g 8 rfl<|.p0 rfl rfl fun x1334 _=>.p0 rfl rfl fun x1335 _=>.p0 rfl rfl fun x1336 _=>.g 8 rfl<|?_
      refine .cut (fun x:Int × (List Int)=>(r03_DivMod_j4 y1273 y1274 (fun z0 z1 z2=>r03_DivMod_l2 x698 x697 x694 x696 n2 z0 z1 z2) x.1 x.2,[eL 7 x697.1,eI 10 (IntKind.i64.wrap ((IntKind.i64.wrap (32*(x694.length:Int)))-x696)),eL 11 x698.1,(13,some (.row 0 (kInt .u32).sz 0 ((y1274).length))),eI 15 y1273,eX 16 x.1,eL 17 x.2],[(0,(rwK (kInt .u32) 117 y1274))])) ?_ ?_
      ·rintro ⟨y1361,y1362⟩
       dsimp only [r03_DivMod_j4]
       refine .g 7 rfl<|.guard fun h675=>?_
       obtain ⟨h6751,h6752⟩:=h675
       refine .sv (.rptr 0 (kInt .u32).sz y1273.toNat 0) [] rfl (idx_r (snd_index_r _ _ _ _ _ 0 0 ((y1274).length) _ y1273 rfl underlying22 si117 rfl rfl rfl rfl h6751 (by omega)) (Nat.zero_add _)) rfl<|.sm [(0,(rwK (kInt .u32) 117 ((y1274).set y1273.toNat (IntKind.u32.wrap y1361))))] rfl (snd_storeK_sca (kInt .u32) _ _ _ 0 y1273.toNat _ _ (IntKind.u32.wrap y1361) _ rfl rfl rfl sc117 rfl rfl rfl rfl rfl rfl (by first | omega | (simp only [List.length_set]; omega))) rfl<|?_
       refine .weak ?_ (fun a w h=>Conc.relen h 13 ((((y1274).set y1273.toNat (IntKind.u32.wrap y1361))).length) rfl List.length_set.symm)
       refine .g 7 rfl<|.jw (h643 (y1362,((y1274).set y1273.toNat (IntKind.u32.wrap y1361)))) [(0,0)] rfl
      ·intro h676
       refine .g 1 rfl<|?_
       refine .lp (fun n (x:Int × (List Int) × Bool)=>r03_DivMod_l5 x697 x1332 y1273 y1274 (fun z0 z1 z2=>r03_DivMod_l2 x698 x697 x694 x696 n2 z0 z1 z2) n x.1 x.2.1 x.2.2) (fun x=>([eL 7 x697.1,eI 10 (IntKind.i64.wrap ((IntKind.i64.wrap (32*(x694.length:Int)))-x696)),eL 11 x698.1,(13,some (.row 0 (kInt .u32).sz 0 ((y1274).length))),eL 14 x1332,eI 15 y1273,eX 16 x.1,eL 17 x.2.1,eB 18 x.2.2],[(0,(rwK (kInt .u32) 117 y1274))])) (x1333,x1336.1,x1336.2) [(0,0)] rfl ?_
       rintro n5 ⟨y1378,y1379,y1380⟩
       try dsimp only
       rw [r03_DivMod_l5]
       refine .g 7 rfl<|?_
       refine .cd rfl (fun _ _=>?_) fun _ _=>?_
       ·refine .g 14 rfl<|.p0 rfl rfl fun x1384 _=>.p0 rfl rfl fun x1385 _=>.p0 rfl rfl fun x1386 _=>.g 7 rfl<|.ag ((IntKind.u64.wrap (y1378-1)),x1386.1,x1386.2) [(0,0)] rfl
       ·refine .g 4 rfl<|.jw (h676 (y1378,y1379)) [(0,0)] rfl
    ·refine .g 4 rfl<|.jw (h356 (y1272,y1274)) [(0,0)] rfl
instance r01_Add_i (a0:List Int) (a1:List Int):PC (r01_Add a0 a1) Tryz.prog 294 [(slK (kInt .u32) a0),(slK (kInt .u32) a1)] (fun r=>(slK (kInt .u32) r)):=pc func294 (by kernel_rfl) rfl fun E=>by
 unfold r01_Add
 refine .g 21 rfl<|?_
 refine .cut (fun x:(List Int)=>(r01_Add_j1 x,[(5,some (grA (kInt .u32) 0 x))],[(0,(grV (kInt .u32) 117 x))])) ?_ ?_
 ·rintro y57
  dsimp only [r01_Add_j1]
  refine .g 2 rfl<|?_
  refine .weak ?_ (fun a w h=>Conc.gr_still (kInt .u32) h 5 0 117 y57 rfl rfl)
  refine .g 2 rfl<|.p0 rfl rfl fun x58 _=>.g 4 rfl<|.fi rfl rfl
 ·intro h26
  refine .g 1 rfl<|?_
  refine .weak ?_ (fun a w h=>Conc.gr_nil (kInt .u32) h 5 0 117 rfl)
  refine .lo (fun n (x:Int × Int × (List Int))=>r01_Add_l2 a0 a1 n x.1 x.2.1 x.2.2) (fun x=>([eL 0 a0,eL 1 a1,(5,some (grA (kInt .u32) 0 x.2.2)),eX 6 x.1,eI 7 x.2.1],[(0,(grV (kInt .u32) 117 x.2.2))])) (0,0,[]) rfl (fun hE=>jn (m:=0) [(0,0)] hE (.l rfl<|.l rfl<|.g rfl (ren_gr (K:=(kInt .u32)) (by rfl) [])<|.i rfl<|.i rfl<|.nil) (.cons (.refl _) (renV_gr (K:=(kInt .u32)) 117 [])<|.nil) rfl) ?_
  rintro n2 ⟨y70,y71,y72⟩
  try dsimp only
  rw [r01_Add_l2]
  refine .g 5 rfl<|.ln rfl rfl<|.g 1 rfl<|.ln rfl rfl<|.g 5 rfl<|?_
  refine .cd rfl (fun _ _=>?_) fun _ _=>?_
  ·refine .g 8 rfl<|.p0 rfl rfl fun x75 _=>.g 2 rfl<|.p0 rfl rfl fun x76 _=>.g 11 rfl<|.st rfl (bs (kInt .u32) [(IntKind.u32.wrap (IntKind.u64.wrap ((IntKind.u64.wrap (x75+x76))+y70)))] rfl rfl) rfl<|.guard fun h50=>.sv (.row 1 (kInt .u32).sz 0 (((y72++[(IntKind.u32.wrap (IntKind.u64.wrap ((IntKind.u64.wrap (x75+x76))+y70)))])).length)) [(1,(rwK (kInt .u32) 117 (y72++[(IntKind.u32.wrap (IntKind.u64.wrap ((IntKind.u64.wrap (x75+x76))+y70)))]))),(0,.dead)] rfl (snd_appendK_gr (kInt .u32) _ _ _ _ _ 0 1 y72 [(IntKind.u32.wrap (IntKind.u64.wrap ((IntKind.u64.wrap (x75+x76))+y70)))] rfl underlying22 ze117 sb117 rfl rfl rfl rfl rfl rfl rfl h50) rfl<|.g 15 rfl<|?_
   refine .weak ?_ (fun a w h=>Conc.gr_row (kInt .u32) h 5 1 117 (y72++[(IntKind.u32.wrap (IntKind.u64.wrap ((IntKind.u64.wrap (x75+x76))+y70)))]) rfl rfl (by first | omega | (simp only [List.length_append,List.length_cons,List.length_set]; omega) | simp))
   exact .ao ((shrI .u64 (IntKind.u64.wrap ((IntKind.u64.wrap (x75+x76))+y70)) 32),(IntKind.i64.wrap (y71+1)),(y72++[(IntKind.u32.wrap (IntKind.u64.wrap ((IntKind.u64.wrap (x75+x76))+y70)))])) rfl fun hE=>jn (m:=0) [(1,0)] hE (.l rfl<|.l rfl<|.g rfl (ren_gr (K:=(kInt .u32)) (by rfl) (y72++[(IntKind.u32.wrap (IntKind.u64.wrap ((IntKind.u64.wrap (x75+x76))+y70)))]))<|.i rfl<|.i rfl<|.nil) (.cons (.refl _) (renV_gr (K:=(kInt .u32)) 117 (y72++[(IntKind.u32.wrap (IntKind.u64.wrap ((IntKind.u64.wrap (x75+x76))+y70)))]))<|.nil) rfl
  ·refine .g 4 rfl<|.jo (h26 y72) rfl fun hE=>jn (m:=0) [(0,0)] hE (.g rfl (ren_gr (K:=(kInt .u32)) (by rfl) y72)<|.nil) (.cons (.refl _) (renV_gr (K:=(kInt .u32)) 117 y72)<|.nil) rfl
instance r05_cut_i (a0:Bool) (a1:List Int) (a2:Int) (a3:Bool) (a4:Int) (a5:Bool):PC (r05_cut a0 a1 a2 a3 a4 a5) Tryz.prog 286 [(.bool a0),(slK (kInt .u32) a1),(.int .i64 a2),(.bool a3),(.int .i64 a4),(.bool a5)] (fun r=>(.agg (kD.enc (⟨((r).M),(r).E⟩:AD)))):=pc func286 (by kernel_rfl) rfl fun E=>by
 unfold r05_cut
 refine .g 8 rfl<|.p0 rfl rfl fun x20 _=>.g 12 rfl<|?_
 refine .cut (fun x:(List Int) × Int × Bool=>(r05_cut_j1 a0 a5 x.1 x.2.1 x.2.2,[eB 0 a0,eL 1 x.1,eI 2 x.2.1,eB 3 x.2.2,eB 5 a5,eP 12 0],[(0,(.live 26 [(.bool false),(slK (kInt .u32) []),(.int .i64 0)]))])) ?_ ?_
 ·rintro ⟨y26,y27,y28⟩
  dsimp only [r05_cut_j1]
  refine .g 3 rfl<|?_
  refine .cut (fun x:Bool=>(r05_cut_j2 y26 a0 y27 x,[eB 0 a0,eL 1 y26,eI 2 y27,eP 12 0,eB 46 x],[(0,(.live 26 [(.bool false),(slK (kInt .u32) []),(.int .i64 0)]))])) ?_ ?_
  ·rintro y29
   dsimp only [r05_cut_j2]
   refine .g 1 rfl<|?_
   refine .cut (fun x:(List Int)=>(r05_cut_j3 a0 y27 x,[eB 0 a0,eL 1 x,eI 2 y27,eP 12 0],[(0,(.live 26 [(.bool false),(slK (kInt .u32) []),(.int .i64 0)]))])) ?_ ?_
   ·rintro y31
    dsimp only [r05_cut_j3]
    refine .g 7 rfl<|.p0 rfl rfl fun x32 _=>.g 4 rfl<|.fi rfl rfl
   ·intro h15
    refine .cd rfl (fun _ _=>?_) fun _ _=>?_
    ·refine .g 2 rfl<|.st rfl (bs (kInt .u32) [1] rfl rfl) rfl<|.p0 rfl rfl fun x33 _=>.g 2 rfl<|.jw (h15 x33) [(0,0)] rfl
    ·refine .g 1 rfl<|.jw (h15 y26) [(0,0)] rfl
  ·intro h19
   refine .g 3 rfl<|?_
   refine .gd 44 rfl (fun _=>?_) fun _=>?_
   ·refine .g 3 rfl<|.jw (h19 a5) [(0,0)] rfl
   ·refine .g 3 rfl<|.jw (h19 false) [(0,0)] rfl
 ·intro h21
  refine .cd rfl (fun _ _=>?_) fun _ _=>?_
  ·refine .g 4 rfl<|.p0 rfl rfl fun x34 _=>.g 7 rfl<|.p0 rfl rfl fun x35 _=>.g 8 rfl<|?_
   refine .cut (fun x:Bool=>(r05_cut_j4 a0 a5 x34 a2 x20 a4 x,[eB 0 a0,eI 2 a2,eB 3 x,eB 5 a5,eP 12 0,eI 13 (IntKind.i64.wrap (x20-a4)),eL 14 x34],[(0,(.live 26 [(.bool false),(slK (kInt .u32) []),(.int .i64 0)]))])) ?_ ?_
   ·rintro y37
    dsimp only [r05_cut_j4]
    refine .g 13 rfl<|.jw (h21 (x34,(IntKind.i64.wrap (a2+(IntKind.i64.wrap (x20-a4)))),y37)) [(0,0)] rfl
   ·intro h28
    refine .g 3 rfl<|?_
    refine .gd 33 rfl (fun _=>?_) fun _=>?_
    ·refine .g 7 rfl<|.jw (h28 true) [(0,0)] rfl
    ·refine .g 2 rfl<|.p0 rfl rfl fun x38 _=>.g 4 rfl<|.jw (h28 (x38 != 0)) [(0,0)] rfl
  ·refine .g 1 rfl<|.jw (h21 (a1,a2,a3)) [(0,0)] rfl
instance r05_told_i (a0:AD):PC (r05_told a0) Tryz.prog 211 [(.agg (kD.enc a0))] (fun r=>(.tup [(.agg (kD.enc (⟨((r.1).M),(r.1).E⟩:AD))),(.int .i64 r.2)])):=pc func211 (by kernel_rfl) rfl fun E=>by
 unfold r05_told
 refine .g 10 rfl<|.p0 rfl rfl fun x2 _=>.g 10 rfl<|?_
 refine .cd rfl (fun _ _=>?_) fun _ _=>?_
 ·refine .g 9 rfl<|.fi rfl rfl
 ·refine .g 10 rfl<|.fi rfl rfl
instance r05_Div_i (a0:AD) (a1:AD) (a2:Int) (a3:Bool):PC (r05_Div a0 a1 a2 a3) Tryz.prog 199 [(.agg (kD.enc a0)),(.agg (kD.enc a1)),(.int .i64 a2),(.bool a3)] (fun r=>(.tup [(.agg (kD.enc (⟨((r.1).M),(r.1).E⟩:AD))),(.int .i64 r.2)])):=pc func199 (by kernel_rfl) rfl fun E=>by
 unfold r05_Div
 refine .g 11 rfl<|.p0 rfl rfl fun x12 _=>.g 6 rfl<|.p0 rfl rfl fun x13 _=>.g 5 rfl<|?_
 refine .cut (fun x:Bool=>(r05_Div_j1 a1 a0 a2 a3 x,[eI 2 a2,eB 3 a3,eP 4 0,eP 5 1,eP 8 2,eB 32 x],[(0,(.live 26 [(.bool a0.M.Neg),(slK (kInt .u32) a0.M.Mag),(.int .i64 a0.E)])),(1,(.live 26 [(.bool a1.M.Neg),(slK (kInt .u32) a1.M.Mag),(.int .i64 a1.E)])),(2,(.live 26 [(.bool false),(slK (kInt .u32) []),(.int .i64 0)]))])) ?_ ?_
 ·rintro y15
  dsimp only [r05_Div_j1]
  refine .g 1 rfl<|?_
  refine .cd rfl (fun _ _=>?_) fun _ _=>?_
  ·refine .g 9 rfl<|.fi rfl rfl
  ·refine .g 8 rfl<|.ln rfl rfl<|.g 3 rfl<|?_
   refine .cd rfl (fun _ _=>?_) fun _ _=>?_
   ·refine .g 9 rfl<|.fi rfl rfl
   ·refine .g 8 rfl<|.ln rfl rfl<|.g 3 rfl<|?_
    refine .cd rfl (fun _ _=>?_) fun _ _=>?_
    ·refine .g 9 rfl<|.fi rfl rfl
    ·refine .g 9 rfl<|.p0 rfl rfl fun x16 _=>.g 4 rfl<|.p0 rfl rfl fun x17 _=>.g 3 rfl<|.dn (by kernel_rfl)<|.g 7 rfl<|.p0 rfl rfl fun x18 _=>.g 9 rfl<|.p0 rfl rfl fun x19 _=>.g 33 rfl<|.ln rfl rfl<|.g 5 rfl<|.p0 rfl rfl fun x20 _=>?_
     refine .p0 rfl rfl fun x21 _=>.g 7 rfl<|.fi rfl rfl
 ·intro h18
  refine .g 4 rfl<|?_
  refine .gd 24 rfl (fun _=>?_) fun _=>?_
  ·refine .g 9 rfl<|.jw (h18 true) [(0,0),(1,1),(2,2)] rfl
  ·refine .g 4 rfl<|?_
   refine .gd 28 rfl (fun _=>?_) fun _=>?_
   ·refine .g 5 rfl<|.jw (h18 true) [(0,0),(1,1),(2,2)] rfl
   ·refine .g 1 rfl<|.p0 rfl rfl fun x22 _=>.g 3 rfl<|.jw (h18 (!x22)) [(0,0),(1,1),(2,2)] rfl
instance r06_least_i (a0:List AD):PC (r06_least a0) Tryz.prog 201 [(slK kD a0)] (fun r=>(.agg (kD.enc (⟨((r).M),(r).E⟩:AD)))):=pc func201 (by kernel_rfl) rfl fun E=>by
 unfold r06_least
 refine .g 8 rfl<|.ix rfl rfl<|.g 11 rfl<|?_
 refine .cut (fun x:Bool × (List Int) × Int=>(r06_least_j1 x.1 x.2.1 x.2.2,[eP 2 0,eP 3 1],[(0,(.live 26 [(.bool false),(slK (kInt .u32) []),(.int .i64 0)])),(1,(.live 26 [(.bool x.1),(slK (kInt .u32) x.2.1),(.int .i64 x.2.2)]))])) ?_ ?_
 ·rintro ⟨y100,y101,y102⟩
  dsimp only [r06_least_j1]
  refine .g 8 rfl<|.fi rfl rfl
 ·intro h56
  refine .g 1 rfl<|?_
  refine .lp (fun n (x:Int × Bool × (List Int) × Int)=>r06_least_l2 a0 n x.1 x.2.1 x.2.2.1 x.2.2.2) (fun x=>([eK kD 0 a0,eP 2 0,eP 3 1,eI 4 x.1],[(0,(.live 26 [(.bool false),(slK (kInt .u32) []),(.int .i64 0)])),(1,(.live 26 [(.bool x.2.1),(slK (kInt .u32) x.2.2.1),(.int .i64 x.2.2.2)]))])) (1,((a0.getD 0 zAD).M).Neg,((a0.getD 0 zAD).M).Mag,(a0.getD 0 zAD).E) [(0,0),(1,1)] rfl ?_
  rintro n2 ⟨y123,y124,y125,y126⟩
  try dsimp only
  rw [r06_least_l2]
  refine .g 5 rfl<|.ln rfl rfl<|.g 3 rfl<|?_
  refine .cd rfl (fun _ _=>?_) fun _ _=>?_
  ·refine .g 8 rfl<|.ix rfl rfl<|.g 2 rfl<|.p0 rfl rfl fun x131 _=>.g 1 rfl<|.dn (by kernel_rfl)<|.g 1 rfl<|?_
   refine .cut (fun x:Bool × (List Int) × Int=>(r06_least_j3 (fun z0 z1 z2 z3=>r06_least_l2 a0 n2 z0 z1 z2 z3) y123 x.1 x.2.1 x.2.2,[eK kD 0 a0,eP 2 0,eP 3 1,eI 4 y123],[(0,(.live 26 [(.bool false),(slK (kInt .u32) []),(.int .i64 0)])),(1,(.live 26 [(.bool x.1),(slK (kInt .u32) x.2.1),(.int .i64 x.2.2)]))])) ?_ ?_
   ·rintro ⟨y132,y133,y134⟩
    dsimp only [r06_least_j3]
    refine .g 7 rfl<|.ag ((IntKind.i64.wrap (y123+1)),y132,y133,y134) [(0,0),(1,1)] rfl
   ·intro h108
    refine .cd rfl (fun _ _=>?_) fun _ _=>?_
    ·refine .g 3 rfl<|.ix rfl rfl<|.g 3 rfl<|.jw (h108 (((a0.getD y123.toNat zAD).M).Neg,((a0.getD y123.toNat zAD).M).Mag,(a0.getD y123.toNat zAD).E)) [(0,0),(1,1)] rfl
    ·refine .g 1 rfl<|.jw (h108 (y124,y125,y126)) [(0,0),(1,1)] rfl
  ·refine .g 4 rfl<|.jw (h56 (y124,y125,y126)) [(0,0),(1,1)] rfl
instance r06_greatest_i (a0:List AD):PC (r06_greatest a0) Tryz.prog 202 [(slK kD a0)] (fun r=>(.agg (kD.enc (⟨((r).M),(r).E⟩:AD)))):=pc func202 (by kernel_rfl) rfl fun E=>by
 unfold r06_greatest
 refine .g 8 rfl<|.ix rfl rfl<|.g 11 rfl<|?_
 refine .cut (fun x:Bool × (List Int) × Int=>(r06_greatest_j1 x.1 x.2.1 x.2.2,[eP 2 0,eP 3 1],[(0,(.live 26 [(.bool false),(slK (kInt .u32) []),(.int .i64 0)])),(1,(.live 26 [(.bool x.1),(slK (kInt .u32) x.2.1),(.int .i64 x.2.2)]))])) ?_ ?_
 ·rintro ⟨y100,y101,y102⟩
  dsimp only [r06_greatest_j1]
  refine .g 8 rfl<|.fi rfl rfl
 ·intro h56
  refine .g 1 rfl<|?_
  refine .lp (fun n (x:Int × Bool × (List Int) × Int)=>r06_greatest_l2 a0 n x.1 x.2.1 x.2.2.1 x.2.2.2) (fun x=>([eK kD 0 a0,eP 2 0,eP 3 1,eI 4 x.1],[(0,(.live 26 [(.bool false),(slK (kInt .u32) []),(.int .i64 0)])),(1,(.live 26 [(.bool x.2.1),(slK (kInt .u32) x.2.2.1),(.int .i64 x.2.2.2)]))])) (1,((a0.getD 0 zAD).M).Neg,((a0.getD 0 zAD).M).Mag,(a0.getD 0 zAD).E) [(0,0),(1,1)] rfl ?_
  rintro n2 ⟨y123,y124,y125,y126⟩
  try dsimp only
  rw [r06_greatest_l2]
  refine .g 5 rfl<|.ln rfl rfl<|.g 3 rfl<|?_
  refine .cd rfl (fun _ _=>?_) fun _ _=>?_
  ·refine .g 8 rfl<|.ix rfl rfl<|.g 2 rfl<|.p0 rfl rfl fun x131 _=>.g 1 rfl<|.dn (by kernel_rfl)<|.g 1 rfl<|?_
   refine .cut (fun x:Bool × (List Int) × Int=>(r06_greatest_j3 (fun z0 z1 z2 z3=>r06_greatest_l2 a0 n2 z0 z1 z2 z3) y123 x.1 x.2.1 x.2.2,[eK kD 0 a0,eP 2 0,eP 3 1,eI 4 y123],[(0,(.live 26 [(.bool false),(slK (kInt .u32) []),(.int .i64 0)])),(1,(.live 26 [(.bool x.1),(slK (kInt .u32) x.2.1),(.int .i64 x.2.2)]))])) ?_ ?_
   ·rintro ⟨y132,y133,y134⟩
    dsimp only [r06_greatest_j3]
    refine .g 7 rfl<|.ag ((IntKind.i64.wrap (y123+1)),y132,y133,y134) [(0,0),(1,1)] rfl
   ·intro h108
    refine .cd rfl (fun _ _=>?_) fun _ _=>?_
    ·refine .g 3 rfl<|.ix rfl rfl<|.g 3 rfl<|.jw (h108 (((a0.getD y123.toNat zAD).M).Neg,((a0.getD y123.toNat zAD).M).Mag,(a0.getD y123.toNat zAD).E)) [(0,0),(1,1)] rfl
    ·refine .g 1 rfl<|.jw (h108 (y124,y125,y126)) [(0,0),(1,1)] rfl
  ·refine .g 4 rfl<|.jw (h56 (y124,y125,y126)) [(0,0),(1,1)] rfl
instance r06_Cout_i (a0:AD) (a1:AD) (a2:Int) (a3:Int):CC (r06_Cout a0 a1 a2 a3) Tryz.prog 200 [(.ptr 0 0),(.agg (kD.enc a0)),(.agg (kD.enc a1))] [(.live 141 [(.int .i64 a2),(.int .i64 a3)])] (fun r=>(.agg (kI.enc (⟨⟨(((r).Lo).M),((r).Lo).E⟩,⟨(((r).Hi).M),((r).Hi).E⟩⟩:AI)))) (fun r=>[(.live 141 [(.int .i64 a2),(.int .i64 a3)])]):=cc func200 (by kernel_rfl) rfl fun E=>by
 unfold r06_Cout
 refine .g 17 rfl<|?_
 refine .cd rfl (fun _ _=>?_) fun _ _=>?_
 ·refine .g 8 rfl<|.fi rfl rfl
 ·refine .g 11 rfl<|.fi rfl rfl
instance r06_CDiv_i (a0:AI) (a1:AI) (a2:Int) (a3:Int):CC (r06_CDiv a0 a1 a2 a3) Tryz.prog 104 [(.ptr 0 0),(.agg (kI.enc a0)),(.agg (kI.enc a1))] [(.live 141 [(.int .i64 a2),(.int .i64 a3)])] (fun r=>(.agg (kI.enc (⟨⟨(((r.1).Lo).M),((r.1).Lo).E⟩,⟨(((r.1).Hi).M),((r.1).Hi).E⟩⟩:AI)))) (fun r=>[(.live 141 [(.int .i64 a2),(.int .i64 r.2)])]):=cc func104 (by kernel_rfl) rfl fun E=>by
 unfold r06_CDiv
 refine .g 13 rfl<|.st rfl (bs kI [a0,a1] rfl rfl) rfl<|.bind fun x122 h1=>.st rfl (cl (CC.h h1) [0] [] [true] rfl (.p rfl<|.l<|.nil) (.p rfl (.i<|.i<|.nil) .nil) fnil (.cons (.v (.i<|.i<|.nil)) .nil) (.bool _) (.turned .nil) rfl) rfl<|.g 3 rfl<|?_
 refine .cd rfl (fun _ _=>?_) fun _ _=>?_
 ·refine .g 8 rfl<|.fi rfl rfl
 ·refine .g 7 rfl<|.p0 rfl rfl fun x123 _=>.g 2 rfl<|?_
  refine .cd rfl (fun _ _=>?_) fun _ _=>?_
  ·refine .g 3 rfl<|.bind fun x124 h7=>.st rfl (cl (CC.h h7) [0] [] [true] rfl (.p rfl<|.i<|.nil) (.p rfl (.i<|.i<|.nil) .nil) fnil (.cons (.v (.i<|.i<|.nil)) .nil) (.bool _) (.turned .nil) rfl) rfl<|.g 10 rfl<|.fi rfl rfl
  ·refine .g 12 rfl<|.st rfl (bs kD [a0.Lo,a0.Lo,a0.Hi,a0.Hi] rfl rfl) rfl<|.g 13 rfl<|.st rfl (bs kD [a1.Lo,a1.Hi,a1.Lo,a1.Hi] rfl rfl) rfl<|.g 19 rfl<|?_
   refine .cut (fun x:Int × (List AD) × (List AD)=>(r06_CDiv_j1 a2 x.1 x.2.1 x.2.2,[eP 0 0,eP 6 3,(9,some (grA kD 4 x.2.1)),(10,some (grA kD 5 x.2.2))],[(0,(.live 141 [(.int .i64 a2),(.int .i64 x.1)])),(3,(.live 30 [(.bool false),(slK (kInt .u32) []),(.int .i64 0),(.bool false),(slK (kInt .u32) []),(.int .i64 0)])),(4,(grV kD 26 x.2.1)),(5,(grV kD 26 x.2.2))])) ?_ ?_
   ·rintro ⟨y181,y182,y183⟩
    dsimp only [r06_CDiv_j1]
    refine .g 2 rfl<|?_
    refine .weak ?_ (fun a w h=>Conc.gr_still kD h 9 4 26 y182 rfl rfl)
    refine .weak ?_ (fun a w h=>Conc.gr_still kD h 10 5 26 y183 rfl rfl)
    refine .g 3 rfl<|.p0 rfl rfl fun x184 _=>.g 1 rfl<|.p0 rfl rfl fun x185 _=>.bind fun x186 h110=>.st rfl (cl (CC.h h110) [0] [] [false] rfl (.p rfl<|.a kD<|.a kD<|.nil) (.p rfl (.i<|.i<|.nil) .nil) fnil (.cons (.v (.i<|.i<|.nil)) .nil) (ren_agg (K:=kI) _) (.kept rfl .nil) rfl) rfl<|.g 4 rfl<|.fi rfl rfl
   ·intro h111
    refine .g 1 rfl<|?_
    refine .weak ?_ (fun a w h=>Conc.gr_nil kD h 9 4 26 rfl)
    refine .weak ?_ (fun a w h=>Conc.gr_nil kD h 10 5 26 rfl)
    refine .lo (fun n (x:Int × Int × (List AD) × (List AD))=>r06_CDiv_l2 a0 a1 a2 n x.1 x.2.1 x.2.2.1 x.2.2.2) (fun x=>([eP 0 0,eP 6 3,eK kD 7 [a0.Lo,a0.Lo,a0.Hi,a0.Hi],eK kD 8 [a1.Lo,a1.Hi,a1.Lo,a1.Hi],(9,some (grA kD 4 x.2.2.1)),(10,some (grA kD 5 x.2.2.2)),eI 11 x.1],[(0,(.live 141 [(.int .i64 a2),(.int .i64 x.2.1)])),(3,(.live 30 [(.bool false),(slK (kInt .u32) []),(.int .i64 0),(.bool false),(slK (kInt .u32) []),(.int .i64 0)])),(4,(grV kD 26 x.2.2.1)),(5,(grV kD 26 x.2.2.2))])) (0,x122.2,[],[]) rfl (fun hE=>jn (m:=1) [(0,0),(3,3),(4,4),(5,5)] hE (.p rfl rfl<|.p rfl rfl<|.l rfl<|.l rfl<|.g rfl (ren_gr (K:=kD) (by rfl) [])<|.g rfl (ren_gr (K:=kD) (by rfl) [])<|.i rfl<|.nil) (.v rfl (.i<|.i<|.nil)<|.v rfl (.b<|.l<|.i<|.b<|.l<|.i<|.nil)<|.cons (.refl _) (renV_gr (K:=kD) 26 [])<|.cons (.refl _) (renV_gr (K:=kD) 26 [])<|.nil) rfl) ?_
    rintro n2 ⟨y223,y224,y225,y226⟩
    try dsimp only
    rw [r06_CDiv_l2]
    refine .g 7 rfl<|?_
    refine .cd rfl (fun _ _=>?_) fun _ _=>?_
    ·refine .g 8 rfl<|.ix rfl rfl<|.g 3 rfl<|.ix rfl rfl<|.g 5 rfl<|.p0 rfl rfl fun x235 _=>.g 6 rfl<|.dn (by kernel_rfl)<|.g 5 rfl<|.ix rfl rfl<|.g 3 rfl<|.ix rfl rfl<|.g 5 rfl<|.p0 rfl rfl fun x236 _=>?_
     refine .g 6 rfl<|.dn (by kernel_rfl)<|.g 3 rfl<|?_
     refine .cut (fun x:Bool × Int=>(r06_CDiv_j3 x235 y225 x236 y226 (fun z0 z1 z2 z3=>r06_CDiv_l2 a0 a1 a2 n2 z0 z1 z2 z3) y223 x.1 x.2,[eP 0 0,eP 6 3,eK kD 7 [a0.Lo,a0.Lo,a0.Hi,a0.Hi],eK kD 8 [a1.Lo,a1.Hi,a1.Lo,a1.Hi],(9,some (grA kD 4 y225)),(10,some (grA kD 5 y226)),eI 11 y223,eP 12 1,eP 14 2,eB 92 x.1],[(0,(.live 141 [(.int .i64 a2),(.int .i64 x.2)])),(3,(.live 30 [(.bool false),(slK (kInt .u32) []),(.int .i64 0),(.bool false),(slK (kInt .u32) []),(.int .i64 0)])),(4,(grV kD 26 y225)),(5,(grV kD 26 y226)),(1,(.live 26 [(.bool (((x235.1).M).Neg)),(slK (kInt .u32) (((x235.1).M).Mag)),(.int .i64 ((x235.1).E))])),(2,(.live 26 [(.bool (((x236.1).M).Neg)),(slK (kInt .u32) (((x236.1).M).Mag)),(.int .i64 ((x236.1).E))]))])) ?_ ?_
     ·rintro ⟨y239,y240⟩
      dsimp only [r06_CDiv_j3]
      refine .g 1 rfl<|?_
      refine .cd rfl (fun _ _=>?_) fun _ _=>?_
      ·refine .g 13 rfl<|.fi rfl rfl
      ·refine .g 6 rfl<|.st rfl (bs kD [(⟨((x235.1).M),(x235.1).E⟩:AD)] rfl rfl) rfl<|.guard fun h207=>.sv (.row 6 kD.sz 0 (((y225++[(⟨((x235.1).M),(x235.1).E⟩:AD)])).length)) [(6,(rwK kD 26 (y225++[(⟨((x235.1).M),(x235.1).E⟩:AD)]))),(4,.dead)] rfl (snd_appendK_gr kD _ _ _ _ _ 4 6 y225 [(⟨((x235.1).M),(x235.1).E⟩:AD)] rfl underlying67 ze26 sb26 rfl rfl rfl rfl rfl rfl rfl h207) rfl<|.g 6 rfl<|.st rfl (bs kD [(⟨((x236.1).M),(x236.1).E⟩:AD)] rfl rfl) rfl<|.guard fun h208=>.sv (.row 7 kD.sz 0 (((y226++[(⟨((x236.1).M),(x236.1).E⟩:AD)])).length)) [(7,(rwK kD 26 (y226++[(⟨((x236.1).M),(x236.1).E⟩:AD)]))),(5,.dead)] rfl (snd_appendK_gr kD _ _ _ _ _ 5 7 y226 [(⟨((x236.1).M),(x236.1).E⟩:AD)] rfl underlying67 ze26 sb26 rfl rfl rfl rfl rfl rfl rfl h208) rfl<|.g 9 rfl<|?_
       refine .weak ?_ (fun a w h=>Conc.gr_row kD h 9 6 26 (y225++[(⟨((x235.1).M),(x235.1).E⟩:AD)]) rfl rfl (by first | omega | (simp only [List.length_append,List.length_cons,List.length_set]; omega) | simp))
       refine .weak ?_ (fun a w h=>Conc.gr_row kD h 10 7 26 (y226++[(⟨((x236.1).M),(x236.1).E⟩:AD)]) rfl rfl (by first | omega | (simp only [List.length_append,List.length_cons,List.length_set]; omega) | simp))
       exact .ao ((IntKind.i64.wrap (y223+1)),y240,(y225++[(⟨((x235.1).M),(x235.1).E⟩:AD)]),(y226++[(⟨((x236.1).M),(x236.1).E⟩:AD)])) rfl fun hE=>jn (m:=1) [(0,0),(3,3),(6,4),(7,5)] hE (.p rfl rfl<|.p rfl rfl<|.l rfl<|.l rfl<|.g rfl (ren_gr (K:=kD) (by rfl) (y225++[(⟨((x235.1).M),(x235.1).E⟩:AD)]))<|.g rfl (ren_gr (K:=kD) (by rfl) (y226++[(⟨((x236.1).M),(x236.1).E⟩:AD)]))<|.i rfl<|.nil) (.v rfl (.i<|.i<|.nil)<|.v rfl (.b<|.l<|.i<|.b<|.l<|.i<|.nil)<|.cons (.refl _) (renV_gr (K:=kD) 26 (y225++[(⟨((x235.1).M),(x235.1).E⟩:AD)]))<|.cons (.refl _) (renV_gr (K:=kD) 26 (y226++[(⟨((x236.1).M),(x236.1).E⟩:AD)]))<|.nil) rfl
     ·intro h209
      refine .g 3 rfl<|.bind fun x241 h210=>.st rfl (cl (CC.h h210) [0] [] [true] rfl (.p rfl<|.i<|.nil) (.p rfl (.i<|.i<|.nil) .nil) fnil (.cons (.v (.i<|.i<|.nil)) .nil) (.bool _) (.turned .nil) rfl) rfl<|.g 2 rfl<|?_
      refine .gd 87 rfl (fun _=>?_) fun _=>?_
      ·refine .g 6 rfl<|.jo (h209 (true,x241.2)) rfl fun hE=>jn (m:=1) [(0,0),(3,3),(4,4),(5,5),(1,1),(2,2)] hE (.p rfl rfl<|.p rfl rfl<|.l rfl<|.l rfl<|.g rfl (ren_gr (K:=kD) (by rfl) y225)<|.g rfl (ren_gr (K:=kD) (by rfl) y226)<|.i rfl<|.p rfl rfl<|.p rfl rfl<|.b rfl<|.nil) (.v rfl (.i<|.i<|.nil)<|.v rfl (.b<|.l<|.i<|.b<|.l<|.i<|.nil)<|.cons (.refl _) (renV_gr (K:=kD) 26 y225)<|.cons (.refl _) (renV_gr (K:=kD) 26 y226)<|.v rfl (.b<|.l<|.i<|.nil)<|.v rfl (.b<|.l<|.i<|.nil)<|.nil) rfl
      ·refine .g 2 rfl<|.bind fun x242 h212=>.st rfl (cl (CC.h h212) [0] [] [true] rfl (.p rfl<|.i<|.nil) (.p rfl (.i<|.i<|.nil) .nil) fnil (.cons (.v (.i<|.i<|.nil)) .nil) (.bool _) (.turned .nil) rfl) rfl<|.g 3 rfl<|.jo (h209 ((!x242.1),x242.2)) rfl fun hE=>jn (m:=1) [(0,0),(3,3),(4,4),(5,5),(1,1),(2,2)] hE (.p rfl rfl<|.p rfl rfl<|.l rfl<|.l rfl<|.g rfl (ren_gr (K:=kD) (by rfl) y225)<|.g rfl (ren_gr (K:=kD) (by rfl) y226)<|.i rfl<|.p rfl rfl<|.p rfl rfl<|.b rfl<|.nil) (.v rfl (.i<|.i<|.nil)<|.v rfl (.b<|.l<|.i<|.b<|.l<|.i<|.nil)<|.cons (.refl _) (renV_gr (K:=kD) 26 y225)<|.cons (.refl _) (renV_gr (K:=kD) 26 y226)<|.v rfl (.b<|.l<|.i<|.nil)<|.v rfl (.b<|.l<|.i<|.nil)<|.nil) rfl
    ·refine .g 4 rfl<|.jo (h111 (y224,y225,y226)) rfl fun hE=>jn (m:=1) [(0,0),(3,3),(4,4),(5,5)] hE (.p rfl rfl<|.p rfl rfl<|.g rfl (ren_gr (K:=kD) (by rfl) y225)<|.g rfl (ren_gr (K:=kD) (by rfl) y226)<|.nil) (.v rfl (.i<|.i<|.nil)<|.v rfl (.b<|.l<|.i<|.b<|.l<|.i<|.nil)<|.cons (.refl _) (renV_gr (K:=kD) 26 y225)<|.cons (.refl _) (renV_gr (K:=kD) 26 y226)<|.nil) rfl
instance r04_Neg_i (a0:ApiInt):PC (r04_Neg a0) Tryz.prog 317 [(.agg (kN.enc a0))] (fun r=>(.agg (kN.enc (r)))):=pc func317 (by kernel_rfl) rfl fun E=>by
 unfold r04_Neg
 refine .g 13 rfl<|.p0 rfl rfl fun x2 _=>.g 4 rfl<|.fi rfl rfl
instance r05_Neg_i (a0:AD):PC (r05_Neg a0) Tryz.prog 251 [(.agg (kD.enc a0))] (fun r=>(.agg (kD.enc (⟨((r).M),(r).E⟩:AD)))):=pc func251 (by kernel_rfl) rfl fun E=>by
 unfold r05_Neg
 refine .g 9 rfl<|.p0 rfl rfl fun x3 _=>.g 10 rfl<|?_
 refine .cd rfl (fun _ _=>?_) fun _ _=>?_
 ·refine .g 8 rfl<|.fi rfl rfl
 ·refine .g 6 rfl<|.p0 rfl rfl fun x4 _=>.g 4 rfl<|.dn (by kernel_rfl)<|.g 2 rfl<|.fi rfl rfl
instance r06_In_i (a0:AI) (a1:AI):PC (r06_In a0 a1) Tryz.prog 340 [(.agg (kI.enc a0)),(.agg (kI.enc a1))] (fun r=>(.bool r)):=pc func340 (by kernel_rfl) rfl fun E=>by
 unfold r06_In
 refine .g 10 rfl<|.p0 rfl rfl fun x7 _=>.g 4 rfl<|?_
 refine .cut (fun x:Bool=>(r06_In_j1 x,[eB 4 x],[])) ?_ ?_
 ·rintro y10
  dsimp only [r06_In_j1]
  refine .g 2 rfl<|.fi rfl rfl
 ·intro h6
  refine .g 3 rfl<|?_
  refine .gd 9 rfl (fun _=>?_) fun _=>?_
  ·refine .g 3 rfl<|.p0 rfl rfl fun x11 _=>.g 2 rfl<|?_
   refine .gd 15 rfl (fun _=>?_) fun _=>?_
   ·refine .g 3 rfl<|.p0 rfl rfl fun x12 _=>.g 3 rfl<|.jw (h6 x12) [] rfl
   ·refine .g 7 rfl<|.jw (h6 false) [] rfl
  ·refine .g 13 rfl<|.jw (h6 false) [] rfl
instance r07_fits_i (a0:AI) (a1:Int) (a2:Int) (a3:Int):CC (r07_fits a0 a1 a2 a3) Tryz.prog 287 [(.ptr 0 0),(.agg (kI.enc a0)),(.int .i64 a1)] [(.live 141 [(.int .i64 a2),(.int .i64 a3)])] (fun r=>(.bool r.1)) (fun r=>[(.live 141 [(.int .i64 a2),(.int .i64 r.2)])]):=cc func287 (by kernel_rfl) rfl fun E=>by
 unfold r07_fits
 refine .g 16 rfl<|?_
 refine .cd rfl (fun _ _=>?_) fun _ _=>?_
 ·refine .g 7 rfl<|.fi rfl rfl
 ·refine .g 5 rfl<|.p0 rfl rfl fun x5 _=>.g 10 rfl<|?_
  refine .cd rfl (fun _ _=>?_) fun _ _=>?_
  ·refine .g 15 rfl<|.fi rfl rfl
  ·refine .g 5 rfl<|.p0 rfl rfl fun x6 _=>.g 9 rfl<|.p0 rfl rfl fun x7 _=>.g 2 rfl<|.p0 rfl rfl fun x8 _=>.g 1 rfl<|.dn (by kernel_rfl)<|.g 1 rfl<|?_
   refine .cd rfl (fun _ _=>?_) fun _ _=>?_
   ·refine .g 15 rfl<|.fi rfl rfl
   ·refine .g 8 rfl<|.fi rfl rfl
instance r04_Mul_i (a0:ApiInt) (a1:ApiInt):PC (r04_Mul a0 a1) Tryz.prog 217 [(.agg (kN.enc a0)),(.agg (kN.enc a1))] (fun r=>(.agg (kN.enc (r)))):=pc func217 (by kernel_rfl) rfl fun E=>by
 unfold r04_Mul
 refine .g 18 rfl<|.p0 rfl rfl fun x3 _=>.p0 rfl rfl fun x4 _=>.g 1 rfl<|.dn (by kernel_rfl)<|.g 2 rfl<|.fi rfl rfl
instance r05_Mul_i (a0:AD) (a1:AD):PC (r05_Mul a0 a1) Tryz.prog 203 [(.agg (kD.enc a0)),(.agg (kD.enc a1))] (fun r=>(.tup [(.agg (kD.enc (⟨((r.1).M),(r.1).E⟩:AD))),(.int .i64 r.2)])):=pc func203 (by kernel_rfl) rfl fun E=>by
 unfold r05_Mul
 refine .g 11 rfl<|.p0 rfl rfl fun x7 _=>.g 6 rfl<|.p0 rfl rfl fun x8 _=>.g 5 rfl<|?_
 refine .cut (fun x:Bool=>(r05_Mul_j1 a0 a1 x,[eP 2 0,eP 3 1,eP 4 2,eB 17 x],[(0,(.live 26 [(.bool a0.M.Neg),(slK (kInt .u32) a0.M.Mag),(.int .i64 a0.E)])),(1,(.live 26 [(.bool a1.M.Neg),(slK (kInt .u32) a1.M.Mag),(.int .i64 a1.E)])),(2,(.live 26 [(.bool false),(slK (kInt .u32) []),(.int .i64 0)]))])) ?_ ?_
 ·rintro y9
  dsimp only [r05_Mul_j1]
  refine .g 1 rfl<|?_
  refine .cd rfl (fun _ _=>?_) fun _ _=>?_
  ·refine .g 9 rfl<|.fi rfl rfl
  ·refine .g 8 rfl<|.p0 rfl rfl fun x10 _=>.g 5 rfl<|.p0 rfl rfl fun x11 _=>.p0 rfl rfl fun x12 _=>.g 4 rfl<|.dn (by kernel_rfl)<|.g 2 rfl<|.fi rfl rfl
 ·intro h9
  refine .g 4 rfl<|?_
  refine .gd 14 rfl (fun _=>?_) fun _=>?_
  ·refine .g 4 rfl<|.jw (h9 true) [(0,0),(1,1),(2,2)] rfl
  ·refine .g 4 rfl<|.jw (h9 (!x8)) [(0,0),(1,1),(2,2)] rfl
instance r05_Round_i (a0:AD) (a1:Int) (a2:Bool):PC (r05_Round a0 a1 a2) Tryz.prog 218 [(.agg (kD.enc a0)),(.int .i64 a1),(.bool a2)] (fun r=>(.tup [(.agg (kD.enc (⟨((r.1).M),(r.1).E⟩:AD))),(.int .i64 r.2)])):=pc func218 (by kernel_rfl) rfl fun E=>by
 unfold r05_Round
 refine .g 10 rfl<|.p0 rfl rfl fun x7 _=>.g 5 rfl<|?_
 refine .cut (fun x:Bool=>(r05_Round_j1 a0 a1 a2 x,[eI 1 a1,eB 2 a2,eP 3 0,eP 6 1,eB 17 x],[(0,(.live 26 [(.bool a0.M.Neg),(slK (kInt .u32) a0.M.Mag),(.int .i64 a0.E)])),(1,(.live 26 [(.bool false),(slK (kInt .u32) []),(.int .i64 0)]))])) ?_ ?_
 ·rintro y9
  dsimp only [r05_Round_j1]
  refine .g 1 rfl<|?_
  refine .cd rfl (fun _ _=>?_) fun _ _=>?_
  ·refine .g 9 rfl<|.fi rfl rfl
  ·refine .g 18 rfl<|.p0 rfl rfl fun x10 _=>.p0 rfl rfl fun x11 _=>.g 7 rfl<|.fi rfl rfl
 ·intro h8
  refine .g 4 rfl<|?_
  refine .gd 13 rfl (fun _=>?_) fun _=>?_
  ·refine .g 5 rfl<|.jw (h8 true) [(0,0),(1,1)] rfl
  ·refine .g 1 rfl<|.p0 rfl rfl fun x12 _=>.g 3 rfl<|.jw (h8 (!x12)) [(0,0),(1,1)] rfl
instance r06_Cround_i (a0:AD) (a1:Bool) (a2:Int) (a3:Int):CC (r06_Cround a0 a1 a2 a3) Tryz.prog 198 [(.ptr 0 0),(.agg (kD.enc a0)),(.bool a1)] [(.live 141 [(.int .i64 a2),(.int .i64 a3)])] (fun r=>(.agg (kD.enc (⟨((r.1).M),(r.1).E⟩:AD)))) (fun r=>[(.live 141 [(.int .i64 a2),(.int .i64 r.2)])]):=cc func198 (by kernel_rfl) rfl fun E=>by
 unfold r06_Cround
 refine .g 16 rfl<|?_
 refine .cd rfl (fun _ _=>?_) fun _ _=>?_
 ·refine .g 8 rfl<|.fi rfl rfl
 ·refine .g 10 rfl<|.p0 rfl rfl fun x3 _=>.g 6 rfl<|.dn (by kernel_rfl)<|.g 5 rfl<|.bind fun x4 h4=>.st rfl (cl (CC.h h4) [0] [] [true] rfl (.p rfl<|.i<|.nil) (.p rfl (.i<|.i<|.nil) .nil) fnil (.cons (.v (.i<|.i<|.nil)) .nil) (.bool _) (.turned .nil) rfl) rfl<|.g 9 rfl<|.fi rfl rfl
instance r06_CMul_i (a0:AI) (a1:AI) (a2:Int) (a3:Int):CC (r06_CMul a0 a1 a2 a3) Tryz.prog 105 [(.ptr 0 0),(.agg (kI.enc a0)),(.agg (kI.enc a1))] [(.live 141 [(.int .i64 a2),(.int .i64 a3)])] (fun r=>(.agg (kI.enc (⟨⟨(((r.1).Lo).M),((r.1).Lo).E⟩,⟨(((r.1).Hi).M),((r.1).Hi).E⟩⟩:AI)))) (fun r=>[(.live 141 [(.int .i64 a2),(.int .i64 r.2)])]):=cc func105 (by kernel_rfl) rfl fun E=>by
 unfold r06_CMul
 refine .g 13 rfl<|.st rfl (bs kI [a0,a1] rfl rfl) rfl<|.bind fun x45 h1=>.st rfl (cl (CC.h h1) [0] [] [true] rfl (.p rfl<|.l<|.nil) (.p rfl (.i<|.i<|.nil) .nil) fnil (.cons (.v (.i<|.i<|.nil)) .nil) (.bool _) (.turned .nil) rfl) rfl<|.g 3 rfl<|?_
 refine .cd rfl (fun _ _=>?_) fun _ _=>?_
 ·refine .g 8 rfl<|.fi rfl rfl
 ·refine .g 12 rfl<|.st rfl (bs kD [a0.Lo,a0.Lo,a0.Hi,a0.Hi] rfl rfl) rfl<|.g 13 rfl<|.st rfl (bs kD [a1.Lo,a1.Hi,a1.Lo,a1.Hi] rfl rfl) rfl<|.g 14 rfl<|?_
  refine .cut (fun x:Int × (List AD)=>(r06_CMul_j1 a2 x.1 x.2,[eP 0 0,eP 6 3,(9,some (grA kD 4 x.2))],[(0,(.live 141 [(.int .i64 a2),(.int .i64 x.1)])),(3,(.live 30 [(.bool false),(slK (kInt .u32) []),(.int .i64 0),(.bool false),(slK (kInt .u32) []),(.int .i64 0)])),(4,(grV kD 26 x.2))])) ?_ ?_
  ·rintro ⟨y64,y65⟩
   dsimp only [r06_CMul_j1]
   refine .g 2 rfl<|?_
   refine .weak ?_ (fun a w h=>Conc.gr_still kD h 9 4 26 y65 rfl rfl)
   refine .g 3 rfl<|.p0 rfl rfl fun x66 _=>.bind fun x67 h51=>.st rfl (cl (CC.h h51) [0] [] [true] rfl (.p rfl<|.a kD<|.b<|.nil) (.p rfl (.i<|.i<|.nil) .nil) fnil (.cons (.v (.i<|.i<|.nil)) .nil) (ren_agg (K:=kD) _) (.turned .nil) rfl) rfl<|.g 8 rfl<|.p0 rfl rfl fun x68 _=>.bind fun x69 h53=>.st rfl (cl (CC.h h53) [0] [] [true] rfl (.p rfl<|.a kD<|.b<|.nil) (.p rfl (.i<|.i<|.nil) .nil) fnil (.cons (.v (.i<|.i<|.nil)) .nil) (ren_agg (K:=kD) _) (.turned .nil) rfl) rfl<|.g 9 rfl<|.bind fun x70 h54=>.st rfl (cl (CC.h h54) [0] [] [false] rfl (.p rfl<|.a kD<|.a kD<|.nil) (.p rfl (.i<|.i<|.nil) .nil) fnil (.cons (.v (.i<|.i<|.nil)) .nil) (ren_agg (K:=kI) _) (.kept rfl .nil) rfl) rfl<|.g 4 rfl<|.fi rfl rfl
  ·intro h55
   refine .g 1 rfl<|?_
   refine .weak ?_ (fun a w h=>Conc.gr_nil kD h 9 4 26 rfl)
   refine .lo (fun n (x:Int × Int × (List AD))=>r06_CMul_l2 a0 a1 a2 n x.1 x.2.1 x.2.2) (fun x=>([eP 0 0,eP 6 3,eK kD 7 [a0.Lo,a0.Lo,a0.Hi,a0.Hi],eK kD 8 [a1.Lo,a1.Hi,a1.Lo,a1.Hi],(9,some (grA kD 4 x.2.2)),eI 10 x.1],[(0,(.live 141 [(.int .i64 a2),(.int .i64 x.2.1)])),(3,(.live 30 [(.bool false),(slK (kInt .u32) []),(.int .i64 0),(.bool false),(slK (kInt .u32) []),(.int .i64 0)])),(4,(grV kD 26 x.2.2))])) (0,x45.2,[]) rfl (fun hE=>jn (m:=1) [(0,0),(3,3),(4,4)] hE (.p rfl rfl<|.p rfl rfl<|.l rfl<|.l rfl<|.g rfl (ren_gr (K:=kD) (by rfl) [])<|.i rfl<|.nil) (.v rfl (.i<|.i<|.nil)<|.v rfl (.b<|.l<|.i<|.b<|.l<|.i<|.nil)<|.cons (.refl _) (renV_gr (K:=kD) 26 [])<|.nil) rfl) ?_
   rintro n2 ⟨y82,y83,y84⟩
   try dsimp only
   rw [r06_CMul_l2]
   refine .g 7 rfl<|?_
   refine .cd rfl (fun _ _=>?_) fun _ _=>?_
   ·refine .g 8 rfl<|.ix rfl rfl<|.g 3 rfl<|.ix rfl rfl<|.g 1 rfl<|.p0 rfl rfl fun x87 _=>.g 6 rfl<|.dn (by kernel_rfl)<|.g 6 rfl<|.bind fun x88 h98=>.st rfl (cl (CC.h h98) [0] [] [true] rfl (.p rfl<|.i<|.nil) (.p rfl (.i<|.i<|.nil) .nil) fnil (.cons (.v (.i<|.i<|.nil)) .nil) (.bool _) (.turned .nil) rfl) rfl<|.g 3 rfl<|?_
    refine .cd rfl (fun _ _=>?_) fun _ _=>?_
    ·refine .g 13 rfl<|.fi rfl rfl
    ·refine .g 5 rfl<|.st rfl (bs kD [(⟨((x87.1).M),(x87.1).E⟩:AD)] rfl rfl) rfl<|.guard fun h101=>.sv (.row 2 kD.sz 0 (((y84++[(⟨((x87.1).M),(x87.1).E⟩:AD)])).length)) [(2,(rwK kD 26 (y84++[(⟨((x87.1).M),(x87.1).E⟩:AD)]))),(4,.dead)] rfl (snd_appendK_gr kD _ _ _ _ _ 4 2 y84 [(⟨((x87.1).M),(x87.1).E⟩:AD)] rfl underlying67 ze26 sb26 rfl rfl rfl rfl rfl rfl rfl h101) rfl<|.g 9 rfl<|?_
     refine .weak ?_ (fun a w h=>Conc.gr_row kD h 9 2 26 (y84++[(⟨((x87.1).M),(x87.1).E⟩:AD)]) rfl rfl (by first | omega | (simp only [List.length_append,List.length_cons,List.length_set]; omega) | simp))
     exact .ao ((IntKind.i64.wrap (y82+1)),x88.2,(y84++[(⟨((x87.1).M),(x87.1).E⟩:AD)])) rfl fun hE=>jn (m:=1) [(0,0),(3,3),(2,4)] hE (.p rfl rfl<|.p rfl rfl<|.l rfl<|.l rfl<|.g rfl (ren_gr (K:=kD) (by rfl) (y84++[(⟨((x87.1).M),(x87.1).E⟩:AD)]))<|.i rfl<|.nil) (.v rfl (.i<|.i<|.nil)<|.v rfl (.b<|.l<|.i<|.b<|.l<|.i<|.nil)<|.cons (.refl _) (renV_gr (K:=kD) 26 (y84++[(⟨((x87.1).M),(x87.1).E⟩:AD)]))<|.nil) rfl
   ·refine .g 4 rfl<|.jo (h55 (y83,y84)) rfl fun hE=>jn (m:=1) [(0,0),(3,3),(4,4)] hE (.p rfl rfl<|.p rfl rfl<|.g rfl (ren_gr (K:=kD) (by rfl) y84)<|.nil) (.v rfl (.i<|.i<|.nil)<|.v rfl (.b<|.l<|.i<|.b<|.l<|.i<|.nil)<|.cons (.refl _) (renV_gr (K:=kD) 26 y84)<|.nil) rfl
instance r07_Terms_i (a0:Int):PC (r07_Terms a0) Tryz.prog 288 [(.int .i64 a0)] (fun r=>(.int .i64 r)):=pc func288 (by kernel_rfl) rfl fun E=>by
 unfold r07_Terms
 refine .g 16 rfl<|.fi rfl rfl
instance r06_CNeg_i (a0:AI) (a1:Int) (a2:Int):CC (r06_CNeg a0 a1 a2) Tryz.prog 253 [(.ptr 0 0),(.agg (kI.enc a0))] [(.live 141 [(.int .i64 a1),(.int .i64 a2)])] (fun r=>(.agg (kI.enc (⟨⟨(((r.1).Lo).M),((r.1).Lo).E⟩,⟨(((r.1).Hi).M),((r.1).Hi).E⟩⟩:AI)))) (fun r=>[(.live 141 [(.int .i64 a1),(.int .i64 r.2)])]):=cc func253 (by kernel_rfl) rfl fun E=>by
 unfold r06_CNeg
 refine .g 11 rfl<|.st rfl (bs kI [a0] rfl rfl) rfl<|.bind fun x4 h1=>.st rfl (cl (CC.h h1) [0] [] [true] rfl (.p rfl<|.l<|.nil) (.p rfl (.i<|.i<|.nil) .nil) fnil (.cons (.v (.i<|.i<|.nil)) .nil) (.bool _) (.turned .nil) rfl) rfl<|.g 3 rfl<|?_
 refine .cd rfl (fun _ _=>?_) fun _ _=>?_
 ·refine .g 8 rfl<|.fi rfl rfl
 ·refine .g 6 rfl<|.p0 rfl rfl fun x5 _=>.g 2 rfl<|.p0 rfl rfl fun x6 _=>.g 2 rfl<|.dn (by kernel_rfl)<|.g 2 rfl<|.fi rfl rfl
instance r04_Add_i (a0:ApiInt) (a1:ApiInt):PC (r04_Add a0 a1) Tryz.prog 212 [(.agg (kN.enc a0)),(.agg (kN.enc a1))] (fun r=>(.agg (kN.enc (r)))):=pc func212 (by kernel_rfl) rfl fun E=>by
 unfold r04_Add
 refine .g 17 rfl<|?_
 refine .cd rfl (fun _ _=>?_) fun _ _=>?_
 ·refine .g 8 rfl<|.p0 rfl rfl fun x7 _=>.p0 rfl rfl fun x8 _=>.g 1 rfl<|.dn (by kernel_rfl)<|.g 3 rfl<|.fi rfl rfl
 ·refine .g 8 rfl<|.p0 rfl rfl fun x9 _=>.g 13 rfl<|?_
  refine .cd rfl (fun _ _=>?_) fun _ _=>?_
  ·refine .g 5 rfl<|.p0 rfl rfl fun x10 _=>.g 5 rfl<|.fi rfl rfl
  ·refine .g 8 rfl<|.p0 rfl rfl fun x11 _=>.g 11 rfl<|.p0 rfl rfl fun x12 _=>.g 4 rfl<|.fi rfl rfl
instance r05_Add_i (a0:AD) (a1:AD):PC (r05_Add a0 a1) Tryz.prog 117 [(.agg (kD.enc a0)),(.agg (kD.enc a1))] (fun r=>(.tup [(.agg (kD.enc (⟨((r.1).M),(r.1).E⟩:AD))),(.int .i64 r.2)])):=pc func117 (by kernel_rfl) rfl fun E=>by
 unfold r05_Add
 refine .g 11 rfl<|.p0 rfl rfl fun x8 _=>.g 6 rfl<|.p0 rfl rfl fun x9 _=>.g 5 rfl<|?_
 refine .cut (fun x:Bool=>(r05_Add_j1 a0 a1 x,[eP 2 0,eP 3 1,eP 4 2,eB 20 x],[(0,(.live 26 [(.bool a0.M.Neg),(slK (kInt .u32) a0.M.Mag),(.int .i64 a0.E)])),(1,(.live 26 [(.bool a1.M.Neg),(slK (kInt .u32) a1.M.Mag),(.int .i64 a1.E)])),(2,(.live 26 [(.bool false),(slK (kInt .u32) []),(.int .i64 0)]))])) ?_ ?_
 ·rintro y10
  dsimp only [r05_Add_j1]
  refine .g 1 rfl<|?_
  refine .cd rfl (fun _ _=>?_) fun _ _=>?_
  ·refine .g 9 rfl<|.fi rfl rfl
  ·refine .g 6 rfl<|.p0 rfl rfl fun x11 _=>.g 15 rfl<|.p0 rfl rfl fun x12 _=>.g 1 rfl<|.p0 rfl rfl fun x13 _=>.p0 rfl rfl fun x14 _=>.g 7 rfl<|.fi rfl rfl
 ·intro h10
  refine .g 4 rfl<|?_
  refine .gd 17 rfl (fun _=>?_) fun _=>?_
  ·refine .g 4 rfl<|.jw (h10 true) [(0,0),(1,1),(2,2)] rfl
  ·refine .g 4 rfl<|.jw (h10 (!x9)) [(0,0),(1,1),(2,2)] rfl
instance r06_Cadd_i (a0:AD) (a1:AD) (a2:Int) (a3:Int):CC (r06_Cadd a0 a1 a2 a3) Tryz.prog 195 [(.ptr 0 0),(.agg (kD.enc a0)),(.agg (kD.enc a1))] [(.live 141 [(.int .i64 a2),(.int .i64 a3)])] (fun r=>(.agg (kD.enc (⟨((r.1).M),(r.1).E⟩:AD)))) (fun r=>[(.live 141 [(.int .i64 a2),(.int .i64 r.2)])]):=cc func195 (by kernel_rfl) rfl fun E=>by
 unfold r06_Cadd
 refine .g 17 rfl<|?_
 refine .cd rfl (fun _ _=>?_) fun _ _=>?_
 ·refine .g 8 rfl<|.fi rfl rfl
 ·refine .g 6 rfl<|.p0 rfl rfl fun x3 _=>.g 12 rfl<|.bind fun x4 h4=>.st rfl (cl (CC.h h4) [0] [] [true] rfl (.p rfl<|.i<|.nil) (.p rfl (.i<|.i<|.nil) .nil) fnil (.cons (.v (.i<|.i<|.nil)) .nil) (.bool _) (.turned .nil) rfl) rfl<|.g 9 rfl<|.fi rfl rfl
end Go.Proofs.YtoakhpdeadglpaaGreat.Gen
