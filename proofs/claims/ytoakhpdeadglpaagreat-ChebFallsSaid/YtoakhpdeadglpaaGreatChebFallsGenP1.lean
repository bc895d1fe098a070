/- Printed by geng.py: a call does what the plain function says. -/
import Derived.Test.YtoakhpdeadglpaaGreatChebFallsGenP0
set_option linter.unusedVariables false
set_option linter.unusedSimpArgs false
set_option maxRecDepth 4000
set_option synthInstance.maxSize 4000
set_option synthInstance.maxHeartbeats 400000
namespace Go.Proofs.YtoakhpdeadglpaaGreat.Gen
open Go Go.Abs Go.Proofs Go.Proofs.Tryz
instance dw_right_i (a0:List AD) (a1:Int) (a2:Bool) (a3:List Int) (a4:Int):CC (dw_right a0 a1 a2 a3 a4) Tryz.prog 130 [(.ptr 0 0),(slK kD a0)] [(.live 174 [(.int .i64 a1),(.bool a2),(slK (kInt .u32) a3),(.int .i64 a4)])] (fun r=>(.bool r.1)) (fun r=>[(.live 174 [(.int .i64 r.2),(.bool a2),(slK (kInt .u32) a3),(.int .i64 a4)])]):=cc func130 (by kernel_rfl) rfl fun E=>by
 unfold dw_right
 refine .g 9 rfl<|.ln rfl rfl<|.g 3 rfl<|?_
 refine .cut (fun x:Int=>(dw_right_j1 x,[eP 0 0],[(0,(.live 174 [(.int .i64 x),(.bool a2),(slK (kInt .u32) a3),(.int .i64 a4)]))])) ?_ ?_
 ·rintro y50
  dsimp only [dw_right_j1]
  refine .g 13 rfl<|.fi rfl rfl
 ·intro h25
  refine .g 1 rfl<|?_
  refine .lp (fun n (x:Int × Int)=>dw_right_l2 a0 a2 a3 a4 n x.1 x.2) (fun x=>([eP 0 0,eK kD 7 a0,eI 8 (a0.length:Int),eI 9 x.1],[(0,(.live 174 [(.int .i64 x.2),(.bool a2),(slK (kInt .u32) a3),(.int .i64 a4)]))])) (0,a1) [(0,0)] rfl ?_
  rintro n2 ⟨y61,y62⟩
  try dsimp only
  rw [dw_right_l2]
  refine .g 6 rfl<|?_
  refine .cd rfl (fun _ _=>?_) fun _ _=>?_
  ·refine .g 6 rfl<|.ix rfl rfl<|.g 10 rfl<|.p0 rfl rfl fun x65 _=>.bind fun x66 h49=>.st rfl (cl (CC.h h49) [0] [] [true] rfl (.p rfl<|.b<|.i<|.nil) (.p rfl (.i<|.b<|.l<|.i<|.nil) .nil) fnil (.cons (.v (.i<|.b<|.l<|.i<|.nil)) .nil) (.bool _) (.turned .nil) rfl) rfl<|.dn (by kernel_rfl)<|.g 6 rfl<|.ag ((IntKind.i64.wrap (y61+1)),x66.2) [(0,0)] rfl
  ·refine .g 4 rfl<|.jw (h25 y62) [(0,0)] rfl
instance dw_prec_i (a0:Int) (a1:Int) (a2:Bool) (a3:List Int) (a4:Int):CC (dw_prec a0 a1 a2 a3 a4) Tryz.prog 182 [(.ptr 0 0),(.int .i64 a0)] [(.live 174 [(.int .i64 a1),(.bool a2),(slK (kInt .u32) a3),(.int .i64 a4)])] (fun r=>(.bool r.1)) (fun r=>[(.live 174 [(.int .i64 r.2),(.bool a2),(slK (kInt .u32) a3),(.int .i64 a4)])]):=cc func182 (by kernel_rfl) rfl fun E=>by
 unfold dw_prec
 refine .g 11 rfl<|.p0 rfl rfl fun x3 _=>.bind fun x4 h2=>.st rfl (cl (CC.h h2) [0] [] [true] rfl (.p rfl<|.b<|.i<|.nil) (.p rfl (.i<|.b<|.l<|.i<|.nil) .nil) fnil (.cons (.v (.i<|.b<|.l<|.i<|.nil)) .nil) (.bool _) (.turned .nil) rfl) rfl<|.g 1 rfl<|.dn (by kernel_rfl)<|.g 2 rfl<|.fi rfl rfl
instance mb_Div32_i (a0:Int) (a1:Int) (a2:Int):PC (mb_Div32 a0 a1 a2) Tryz.prog 329 [(.int .u32 a0),(.int .u32 a1),(.int .u32 a2)] (fun r=>(.tup [(.int .u32 r.1),(.int .u32 r.2)])):=pc func329 (by kernel_rfl) rfl fun E=>by
 unfold mb_Div32
 refine .g 8 rfl<|?_
 refine .cut (fun x:Bool=>(mb_Div32_j1 a2 a0 a1 x,[eW 0 a0,eW 1 a1,eW 2 a2,eB 15 x],[])) ?_ ?_
 ·rintro y2
  dsimp only [mb_Div32_j1]
  refine .g 1 rfl<|?_
  refine .cd rfl (fun _ _=>?_) fun _ _=>?_
  ·exact .no
  ·refine .g 18 rfl<|.guard fun h6=>.st rfl (snd_quo _ _ _ _ _ _ _ rfl rfl rfl rfl rfl h6) rfl<|.g 4 rfl<|.guard fun h7=>.st rfl (snd_rem _ _ _ _ _ _ _ rfl rfl rfl rfl rfl h7) rfl<|.g 3 rfl<|.dn (by kernel_rfl)<|.g 2 rfl<|.fi rfl rfl
 ·intro h8
  refine .g 4 rfl<|?_
  refine .gd 11 rfl (fun _=>?_) fun _=>?_
  ·refine .g 5 rfl<|.jw (h8 (decide (a2≤a0))) [] rfl
  ·refine .g 5 rfl<|.jw (h8 false) [] rfl
instance quo_short_i (a0:List Int) (a1:Int):PC (quo_short a0 a1) Tryz.prog 273 [(slK (kInt .u32) a0),(.int .u32 a1)] (fun r=>(.tup [(slK (kInt .u32) r.1),(slK (kInt .u32) r.2.1),(.bool r.2.2)])):=pc func273 (by kernel_rfl) rfl fun E=>by
 unfold quo_short
 refine .g 2 rfl<|.st rfl (as0 rfl) rfl<|.st rfl (as0 rfl) rfl<|.g 6 rfl<|.ln rfl rfl<|.guard fun h1=>.sv (.row 0 (kInt .u32).sz 0 (((List.replicate a0.length (kInt .u32).z)).length)) [(0,(rwK (kInt .u32) 117 (List.replicate a0.length (kInt .u32).z)))] rfl (snd_makeK (kInt .u32) _ _ _ _ _ 0 _ _ _ rfl underlying22 ze117 sb117 (by decide) rfl rfl rfl rfl rfl h1) rfl<|.g 12 rfl<|.ln rfl rfl<|.g 3 rfl<|?_
 refine .cut (fun x:Int × (List Int)=>(quo_short_j1 x.1 x.2,[(4,some (.row 0 (kInt .u32).sz 0 ((x.2).length))),eW 7 x.1],[(0,(rwK (kInt .u32) 117 x.2))])) ?_ ?_
 ·rintro ⟨y41,y42⟩
  dsimp only [quo_short_j1]
  refine .g 2 rfl<|?_
  refine .weak ?_ (fun a w h=>Conc.freezeK (kInt .u32) h 4 0 0 ((y42).length) 117 y42 rfl rfl (by omega))
  refine .weak ?_ (fun a w h=>take_all h)
  refine .g 2 rfl<|.p0 rfl rfl fun x43 _=>.g 2 rfl<|.p0 rfl rfl fun x44 _=>.g 6 rfl<|.fi rfl rfl
 ·intro h28
  refine .g 1 rfl<|?_
  refine .lp (fun n (x:Int × Int × (List Int))=>quo_short_l2 a0 a1 n x.1 x.2.1 x.2.2) (fun x=>([eL 0 a0,eW 1 a1,(4,some (.row 0 (kInt .u32).sz 0 ((x.2.2).length))),eW 7 x.1,eI 14 (a0.length:Int),eI 15 x.2.1],[(0,(rwK (kInt .u32) 117 x.2.2))])) (0,0,(List.replicate a0.length (kInt .u32).z)) [(0,0)] rfl ?_
  rintro n2 ⟨y52,y53,y54⟩
  try dsimp only
  rw [quo_short_l2]
  refine .g 6 rfl<|?_
  refine .cd rfl (fun _ _=>?_) fun _ _=>?_
  ·refine .g 13 rfl<|.ln rfl rfl<|.g 12 rfl<|.ix rfl rfl<|.g 2 rfl<|.p0 rfl rfl fun x56 _=>.g 3 rfl<|.guard fun h52=>?_
   obtain ⟨h521,h522⟩:=h52
   refine .sv (.rptr 0 (kInt .u32).sz ((IntKind.i64.wrap ((IntKind.i64.wrap ((a0.length:Int)-1))-y53)).toNat) 0) [] rfl (idx_r (snd_index_r _ _ _ _ _ 0 0 ((y54).length) _ (IntKind.i64.wrap ((IntKind.i64.wrap ((a0.length:Int)-1))-y53)) rfl underlying22 si117 rfl rfl rfl rfl h521 (by omega)) (Nat.zero_add _)) rfl<|.sm [(0,(rwK (kInt .u32) 117 ((y54).set ((IntKind.i64.wrap ((IntKind.i64.wrap ((a0.length:Int)-1))-y53)).toNat) x56.1)))] rfl (snd_storeK_sca (kInt .u32) _ _ _ 0 ((IntKind.i64.wrap ((IntKind.i64.wrap ((a0.length:Int)-1))-y53)).toNat) _ _ x56.1 _ rfl rfl rfl sc117 rfl rfl rfl rfl rfl rfl (by first | omega | (simp only [List.length_set]; omega))) rfl<|?_
   refine .weak ?_ (fun a w h=>Conc.relen h 4 ((((y54).set ((IntKind.i64.wrap ((IntKind.i64.wrap ((a0.length:Int)-1))-y53)).toNat) x56.1)).length) rfl List.length_set.symm)
   refine .g 8 rfl<|.ag (x56.2,(IntKind.i64.wrap (y53+1)),((y54).set ((IntKind.i64.wrap ((IntKind.i64.wrap ((a0.length:Int)-1))-y53)).toNat) x56.1)) [(0,0)] rfl
  ·refine .g 4 rfl<|.jw (h28 (y52,y54)) [(0,0)] rfl
instance mb_LeadingZeros32_i (a0:Int):PC (mb_LeadingZeros32 a0) Tryz.prog 330 [(.int .u32 a0)] (fun r=>(.int .i64 r)):=pc func330 (by kernel_rfl) rfl fun E=>by
 unfold mb_LeadingZeros32
 refine .g 8 rfl<|.p0 rfl rfl fun x2 _=>.g 5 rfl<|.fi rfl rfl
instance quo_take_i (a0:Nat) (a1:Nat) (a2:List Int) (a3:Int) (a4:List Int):CC (quo_take a0 a1 a2 a3 a4) Tryz.prog 331 [(.row 0 (kInt .u32).sz a0 a1),(slK (kInt .u32) a2),(.int .u64 a3)] [(rwK (kInt .u32) 117 a4)] (fun r=>(.bool r.1)) (fun r=>[(rwK (kInt .u32) 117 r.2)]):=cc func331 (by kernel_rfl) rfl fun E=>by
 unfold quo_take
 refine .g 19 rfl<|.ln rfl rfl<|.g 3 rfl<|?_
 refine .cut (fun x:Int × Int × (List Int)=>(quo_take_j1 a2 a1 a0 x.1 x.2.1 x.2.2,[(0,some (.row 0 (kInt .u32).sz a0 a1)),eL 1 a2,eX 7 x.1,eW 8 x.2.1],[(0,(rwK (kInt .u32) 117 x.2.2))])) ?_ ?_
 ·rintro ⟨y47,y48,y49⟩
  dsimp only [quo_take_j1]
  refine .g 5 rfl<|.ln rfl rfl<|.g 2 rfl<|.ln rfl rfl<|.guard fun h31=>?_
  obtain ⟨h311,h312,h313⟩:=h31
  refine .sv (.rptr 0 (kInt .u32).sz (a0+a2.length) 0) [] rfl (idx_r (snd_index_r _ _ _ _ _ 0 a0 a1 _ (a2.length:Int) rfl underlying22 si117 rfl rfl rfl rfl h311 (by omega)) rfl) rfl<|.sv (.int .u32 ((y49).getD (a0+a2.length) (kInt .u32).z)) [] rfl (snd_loadK_sca (kInt .u32) _ _ 0 (a0+a2.length) 0 _ _ rfl sc117 rfl rfl rfl rfl (by first | omega | (simp only [List.length_set]; omega)) (by decide)) rfl<|.g 3 rfl<|.p0 rfl rfl fun x50 _=>.g 3 rfl<|.guard fun h33=>?_
  obtain ⟨h331,h332,h333⟩:=h33
  refine .sv (.rptr 0 (kInt .u32).sz (a0+a2.length) 0) [] rfl (idx_r (snd_index_r _ _ _ _ _ 0 a0 a1 _ (a2.length:Int) rfl underlying22 si117 rfl rfl rfl rfl h331 (by omega)) rfl) rfl<|.sm [(0,(rwK (kInt .u32) 117 ((y49).set (a0+a2.length) x50.1)))] rfl (snd_storeK_sca (kInt .u32) _ _ _ 0 (a0+a2.length) _ _ x50.1 _ rfl rfl rfl sc117 rfl rfl rfl rfl rfl rfl (by first | omega | (simp only [List.length_set]; omega))) rfl<|.g 11 rfl<|.fi rfl rfl
 ·intro h34
  refine .g 1 rfl<|?_
  refine .lp (fun n (x:Int × Int × Int × (List Int))=>quo_take_l2 a2 a1 a0 a3 n x.1 x.2.1 x.2.2.1 x.2.2.2) (fun x=>([(0,some (.row 0 (kInt .u32).sz a0 a1)),eL 1 a2,eX 2 a3,eX 7 x.1,eW 8 x.2.1,eL 12 a2,eI 13 (a2.length:Int),eI 14 x.2.2.1],[(0,(rwK (kInt .u32) 117 x.2.2.2))])) (0,0,0,a4) [(0,0)] rfl ?_
  rintro n2 ⟨y59,y60,y61,y62⟩
  try dsimp only
  rw [quo_take_l2]
  refine .g 6 rfl<|?_
  refine .cd rfl (fun _ _=>?_) fun _ _=>?_
  ·refine .g 7 rfl<|.ix rfl rfl<|.g 28 rfl<|.guard fun h62=>?_
   obtain ⟨h621,h622,h623⟩:=h62
   refine .sv (.rptr 0 (kInt .u32).sz (a0+y61.toNat) 0) [] rfl (idx_r (snd_index_r _ _ _ _ _ 0 a0 a1 _ y61 rfl underlying22 si117 rfl rfl rfl rfl h621 (by omega)) rfl) rfl<|.sv (.int .u32 ((y62).getD (a0+y61.toNat) (kInt .u32).z)) [] rfl (snd_loadK_sca (kInt .u32) _ _ 0 (a0+y61.toNat) 0 _ _ rfl sc117 rfl rfl rfl rfl (by first | omega | (simp only [List.length_set]; omega)) (by decide)) rfl<|.g 3 rfl<|.p0 rfl rfl fun x64 _=>.g 3 rfl<|.guard fun h64=>?_
   obtain ⟨h641,h642,h643⟩:=h64
   refine .sv (.rptr 0 (kInt .u32).sz (a0+y61.toNat) 0) [] rfl (idx_r (snd_index_r _ _ _ _ _ 0 a0 a1 _ y61 rfl underlying22 si117 rfl rfl rfl rfl h641 (by omega)) rfl) rfl<|.sm [(0,(rwK (kInt .u32) 117 ((y62).set (a0+y61.toNat) x64.1)))] rfl (snd_storeK_sca (kInt .u32) _ _ _ 0 (a0+y61.toNat) _ _ x64.1 _ rfl rfl rfl sc117 rfl rfl rfl rfl rfl rfl (by first | omega | (simp only [List.length_set]; omega))) rfl<|.g 8 rfl<|.ag ((shrI .u64 (IntKind.u64.wrap ((IntKind.u64.wrap ((IntKind.u64.wrap (a2.getD y61.toNat (kInt .u32).z))*a3))+y59)) 32),x64.2,(IntKind.i64.wrap (y61+1)),((y62).set (a0+y61.toNat) x64.1)) [(0,0)] rfl
  ·refine .g 4 rfl<|.jw (h34 (y59,y60,y62)) [(0,0)] rfl
instance quo_give_i (a0:Nat) (a1:Nat) (a2:List Int) (a3:List Int):CC (quo_give a0 a1 a2 a3) Tryz.prog 332 [(.row 0 (kInt .u32).sz a0 a1),(slK (kInt .u32) a2)] [(rwK (kInt .u32) 117 a3)] (fun r=>(.tup [])) (fun r=>[(rwK (kInt .u32) 117 r)]):=cc func332 (by kernel_rfl) rfl fun E=>by
 unfold quo_give
 refine .g 9 rfl<|.ln rfl rfl<|.g 3 rfl<|?_
 refine .cut (fun x:Int × (List Int)=>(quo_give_j1 a2 a1 a0 x.1 x.2,[(0,some (.row 0 (kInt .u32).sz a0 a1)),eL 1 a2,eW 4 x.1],[(0,(rwK (kInt .u32) 117 x.2))])) ?_ ?_
 ·rintro ⟨y39,y40⟩
  dsimp only [quo_give_j1]
  refine .g 4 rfl<|.ln rfl rfl<|.guard fun h31=>?_
  obtain ⟨h311,h312,h313⟩:=h31
  refine .sv (.rptr 0 (kInt .u32).sz (a0+a2.length) 0) [] rfl (idx_r (snd_index_r _ _ _ _ _ 0 a0 a1 _ (a2.length:Int) rfl underlying22 si117 rfl rfl rfl rfl h311 (by omega)) rfl) rfl<|.sv (.int .u32 ((y40).getD (a0+a2.length) (kInt .u32).z)) [] rfl (snd_loadK_sca (kInt .u32) _ _ 0 (a0+a2.length) 0 _ _ rfl sc117 rfl rfl rfl rfl (by first | omega | (simp only [List.length_set]; omega)) (by decide)) rfl<|.g 2 rfl<|.guard fun h32=>?_
  obtain ⟨h321,h322,h323⟩:=h32
  refine .sv (.rptr 0 (kInt .u32).sz (a0+a2.length) 0) [] rfl (idx_r (snd_index_r _ _ _ _ _ 0 a0 a1 _ (a2.length:Int) rfl underlying22 si117 rfl rfl rfl rfl h321 (by omega)) rfl) rfl<|.sm [(0,(rwK (kInt .u32) 117 ((y40).set (a0+a2.length) (IntKind.u32.wrap (((y40).getD (a0+a2.length) (kInt .u32).z)+y39)))))] rfl (snd_storeK_sca (kInt .u32) _ _ _ 0 (a0+a2.length) _ _ (IntKind.u32.wrap (((y40).getD (a0+a2.length) (kInt .u32).z)+y39)) _ rfl rfl rfl sc117 rfl rfl rfl rfl rfl rfl (by first | omega | (simp only [List.length_set]; omega))) rfl<|.g 1 rfl<|.fi rfl rfl
 ·intro h33
  refine .g 1 rfl<|?_
  refine .lp (fun n (x:Int × Int × (List Int))=>quo_give_l2 a2 a1 a0 n x.1 x.2.1 x.2.2) (fun x=>([(0,some (.row 0 (kInt .u32).sz a0 a1)),eL 1 a2,eW 4 x.1,eL 7 a2,eI 8 (a2.length:Int),eI 9 x.2.1],[(0,(rwK (kInt .u32) 117 x.2.2))])) (0,0,a3) [(0,0)] rfl ?_
  rintro n2 ⟨y48,y49,y50⟩
  try dsimp only
  rw [quo_give_l2]
  refine .g 6 rfl<|?_
  refine .cd rfl (fun _ _=>?_) fun _ _=>?_
  ·refine .g 7 rfl<|.ix rfl rfl<|.g 10 rfl<|.guard fun h61=>?_
   obtain ⟨h611,h612,h613⟩:=h61
   refine .sv (.rptr 0 (kInt .u32).sz (a0+y49.toNat) 0) [] rfl (idx_r (snd_index_r _ _ _ _ _ 0 a0 a1 _ y49 rfl underlying22 si117 rfl rfl rfl rfl h611 (by omega)) rfl) rfl<|.sv (.int .u32 ((y50).getD (a0+y49.toNat) (kInt .u32).z)) [] rfl (snd_loadK_sca (kInt .u32) _ _ 0 (a0+y49.toNat) 0 _ _ rfl sc117 rfl rfl rfl rfl (by first | omega | (simp only [List.length_set]; omega)) (by decide)) rfl<|.g 2 rfl<|.p0 rfl rfl fun x52 _=>.g 3 rfl<|.guard fun h63=>?_
   obtain ⟨h631,h632,h633⟩:=h63
   refine .sv (.rptr 0 (kInt .u32).sz (a0+y49.toNat) 0) [] rfl (idx_r (snd_index_r _ _ _ _ _ 0 a0 a1 _ y49 rfl underlying22 si117 rfl rfl rfl rfl h631 (by omega)) rfl) rfl<|.sm [(0,(rwK (kInt .u32) 117 ((y50).set (a0+y49.toNat) x52.1)))] rfl (snd_storeK_sca (kInt .u32) _ _ _ 0 (a0+y49.toNat) _ _ x52.1 _ rfl rfl rfl sc117 rfl rfl rfl rfl rfl rfl (by first | omega | (simp only [List.length_set]; omega))) rfl<|.g 8 rfl<|.ag (x52.2,(IntKind.i64.wrap (y49+1)),((y50).set (a0+y49.toNat) x52.1)) [(0,0)] rfl
  ·refine .g 4 rfl<|.jw (h33 (y48,y50)) [(0,0)] rfl
instance quo_long_i (a0:List Int) (a1:List Int):PC (quo_long a0 a1) Tryz.prog 274 [(slK (kInt .u32) a0),(slK (kInt .u32) a1)] (fun r=>(.tup [(slK (kInt .u32) r.1),(slK (kInt .u32) r.2.1),(.bool r.2.2)])):=pc func274 (by kernel_rfl) rfl fun E=>by
 unfold quo_long
 refine .g 2 rfl<|.st rfl (as0 rfl) rfl<|.st rfl (as0 rfl) rfl<|.g 7 rfl<|.ln rfl rfl<|.g 1 rfl<|.ix rfl rfl<|.g 1 rfl<|.p0 rfl rfl fun x272 _=>.g 7 rfl<|.p0 rfl rfl fun x273 _=>.g 9 rfl<|.ln rfl rfl<|.g 6 rfl<|?_
 refine .ln rfl rfl<|.g 1 rfl<|.guard fun h4=>.sv (.row 0 (kInt .u32).sz 0 (((List.replicate ((IntKind.i64.wrap ((a0.length:Int)+1)).toNat) (kInt .u32).z)).length)) [(0,(rwK (kInt .u32) 117 (List.replicate ((IntKind.i64.wrap ((a0.length:Int)+1)).toNat) (kInt .u32).z)))] rfl (snd_makeK (kInt .u32) _ _ _ _ _ 0 _ _ _ rfl underlying22 ze117 sb117 (by decide) rfl rfl rfl rfl rfl h4) rfl<|.g 7 rfl<|.p0 rfl rfl fun x274 _=>.g 11 rfl<|.sv (.int .i64 ((copyN (List.replicate ((IntKind.i64.wrap ((a0.length:Int)+1)).toNat) (kInt .u32).z) x274.1:Nat):Int)) [(0,(rwK (kInt .u32) 117 (copyL (List.replicate ((IntKind.i64.wrap ((a0.length:Int)+1)).toNat) (kInt .u32).z) x274.1)))] rfl (snd_copyL (kInt .u32) _ _ _ _ _ 0 (List.replicate ((IntKind.i64.wrap ((a0.length:Int)+1)).toNat) (kInt .u32).z) x274.1 rfl underlying22 si117 rfl rfl rfl rfl rfl) rfl<|?_
 refine .weak ?_ (fun a w h=>Conc.relen h 9 (((copyL (List.replicate ((IntKind.i64.wrap ((a0.length:Int)+1)).toNat) (kInt .u32).z) x274.1)).length) rfl (length_copyL _ _).symm)
 refine .g 5 rfl<|.ln rfl rfl<|.g 3 rfl<|.guard fun h6=>.sv (.row 1 (kInt .u32).sz 0 (((List.replicate ((IntKind.i64.wrap ((IntKind.i64.wrap ((a0.length:Int)-(x273.1.length:Int)))+1)).toNat) (kInt .u32).z)).length)) [(1,(rwK (kInt .u32) 117 (List.replicate ((IntKind.i64.wrap ((IntKind.i64.wrap ((a0.length:Int)-(x273.1.length:Int)))+1)).toNat) (kInt .u32).z)))] rfl (snd_makeK (kInt .u32) _ _ _ _ _ 1 _ _ _ rfl underlying22 ze117 sb117 (by decide) rfl rfl rfl rfl rfl h6) rfl<|.g 7 rfl<|.ln rfl rfl<|.g 5 rfl<|?_
 refine .cut (fun x:(List Int) × (List Int)=>(quo_long_j1 x273 x272 x.1 x.2,[(4,some (.row 1 (kInt .u32).sz 0 ((x.1).length))),eI 7 x272,eI 8 (x273.1.length:Int),(9,some (.row 0 (kInt .u32).sz 0 ((x.2).length)))],[(1,(rwK (kInt .u32) 117 x.1)),(0,(rwK (kInt .u32) 117 x.2))])) ?_ ?_
 ·rintro ⟨y407,y408⟩
  dsimp only [quo_long_j1]
  refine .g 2 rfl<|?_
  refine .weak ?_ (fun a w h=>Conc.freezeK (kInt .u32) h 4 1 0 ((y407).length) 117 y407 rfl rfl (by omega))
  refine .weak ?_ (fun a w h=>take_all h)
  refine .weak ?_ (fun a w h=>Conc.freezeK (kInt .u32) h 9 0 0 ((y408).length) 117 y408 rfl rfl (by omega))
  refine .weak ?_ (fun a w h=>take_all h)
  refine .g 2 rfl<|.p0 rfl rfl fun x409 _=>.g 2 rfl<|.guard fun h638=>.sv (slK (kInt .u32) (y408.take x273.1.length)) [] rfl (snd_sliceK (kInt .u32) _ _ _ _ _ _ 0 (x273.1.length:Int) rfl underlying22 si117 rfl rfl rfl rfl rfl h638) rfl<|.g 1 rfl<|.p0 rfl rfl fun x410 _=>.g 3 rfl<|.dn (by kernel_rfl)<|.g 2 rfl<|.fi rfl rfl
 ·intro h640
  refine .g 1 rfl<|?_
  refine .lp (fun n (x:Int × (List Int) × (List Int))=>quo_long_l2 x273 x272 n x.1 x.2.1 x.2.2) (fun x=>([eL 1 x273.1,(4,some (.row 1 (kInt .u32).sz 0 ((x.2.1).length))),eI 7 x272,eI 8 (x273.1.length:Int),(9,some (.row 0 (kInt .u32).sz 0 ((x.2.2).length))),eI 12 x.1],[(1,(rwK (kInt .u32) 117 x.2.1)),(0,(rwK (kInt .u32) 117 x.2.2))])) ((IntKind.i64.wrap ((a0.length:Int)-(x273.1.length:Int))),(List.replicate ((IntKind.i64.wrap ((IntKind.i64.wrap ((a0.length:Int)-(x273.1.length:Int)))+1)).toNat) (kInt .u32).z),(copyL (List.replicate ((IntKind.i64.wrap ((a0.length:Int)+1)).toNat) (kInt .u32).z) x274.1)) [(1,1),(0,0)] rfl ?_
  rintro n2 ⟨y498,y499,y500⟩
  try dsimp only
  rw [quo_long_l2]
  refine .g 7 rfl<|?_
  refine .cd rfl (fun _ _=>?_) fun _ _=>?_
  ·refine .g 3 rfl<|?_
   refine .cut (fun x:(List Int) × (List Int)=>(quo_long_j3 (fun z0 z1 z2=>quo_long_l2 x273 x272 n2 z0 z1 z2) y498 x.1 x.2,[eL 1 x273.1,(4,some (.row 1 (kInt .u32).sz 0 ((x.1).length))),eI 7 x272,eI 8 (x273.1.length:Int),(9,some (.row 0 (kInt .u32).sz 0 ((x.2).length))),eI 12 y498],[(1,(rwK (kInt .u32) 117 x.1)),(0,(rwK (kInt .u32) 117 x.2))])) ?_ ?_
   ·rintro ⟨y521,y522⟩
    dsimp only [quo_long_j3]
    refine .g 6 rfl<|.ag ((IntKind.i64.wrap (y498-1)),y521,y522) [(1,1),(0,0)] rfl
   ·intro h1167
    refine .g 8 rfl<|.guard fun h1168=>?_
    obtain ⟨h11681,h11682⟩:=h1168
    refine .sv (.rptr 0 (kInt .u32).sz ((IntKind.i64.wrap (y498+(x273.1.length:Int))).toNat) 0) [] rfl (idx_r (snd_index_r _ _ _ _ _ 0 0 ((y500).length) _ (IntKind.i64.wrap (y498+(x273.1.length:Int))) rfl underlying22 si117 rfl rfl rfl rfl h11681 (by omega)) (Nat.zero_add _)) rfl<|.sv (.int .u32 ((y500).getD ((IntKind.i64.wrap (y498+(x273.1.length:Int))).toNat) (kInt .u32).z)) [] rfl (snd_loadK_sca (kInt .u32) _ _ 0 ((IntKind.i64.wrap (y498+(x273.1.length:Int))).toNat) 0 _ _ rfl sc117 rfl rfl rfl rfl (by first | omega | (simp only [List.length_set]; omega)) (by decide)) rfl<|.g 7 rfl<|.guard fun h1169=>?_
    obtain ⟨h11691,h11692⟩:=h1169
    refine .sv (.rptr 0 (kInt .u32).sz ((IntKind.i64.wrap ((IntKind.i64.wrap (y498+(x273.1.length:Int)))-1)).toNat) 0) [] rfl (idx_r (snd_index_r _ _ _ _ _ 0 0 ((y500).length) _ (IntKind.i64.wrap ((IntKind.i64.wrap (y498+(x273.1.length:Int)))-1)) rfl underlying22 si117 rfl rfl rfl rfl h11691 (by omega)) (Nat.zero_add _)) rfl<|.sv (.int .u32 ((y500).getD ((IntKind.i64.wrap ((IntKind.i64.wrap (y498+(x273.1.length:Int)))-1)).toNat) (kInt .u32).z)) [] rfl (snd_loadK_sca (kInt .u32) _ _ 0 ((IntKind.i64.wrap ((IntKind.i64.wrap (y498+(x273.1.length:Int)))-1)).toNat) 0 _ _ rfl sc117 rfl rfl rfl rfl (by first | omega | (simp only [List.length_set]; omega)) (by decide)) rfl<|.g 3 rfl<|.dn (by kernel_rfl)<|.g 7 rfl<|.ix rfl rfl<|.g 2 rfl<|.guard fun h1171=>.st rfl (snd_quo _ _ _ _ _ _ _ rfl rfl rfl rfl rfl h1171) rfl<|.g 4 rfl<|.ix rfl rfl<|.g 2 rfl<|.guard fun h1173=>.st rfl (snd_rem _ _ _ _ _ _ _ rfl rfl rfl rfl rfl h1173) rfl<|?_
    refine .g 2 rfl<|.dn (by kernel_rfl)<|.g 5 rfl<|?_
    refine .cut (fun x:Int=>(quo_long_j4 y498 x273 y500 y499 (fun z0 z1 z2=>quo_long_l2 x273 x272 n2 z0 z1 z2) x,[eL 1 x273.1,(4,some (.row 1 (kInt .u32).sz 0 ((y499).length))),eI 7 x272,eI 8 (x273.1.length:Int),(9,some (.row 0 (kInt .u32).sz 0 ((y500).length))),eI 12 y498,eX 14 x],[(1,(rwK (kInt .u32) 117 y499)),(0,(rwK (kInt .u32) 117 y500))])) ?_ ?_
    ·rintro y530
     dsimp only [quo_long_j4]
     refine .g 10 rfl<|.guard fun h1216=>.sv (.row 0 (kInt .u32).sz (0+y498.toNat) ((IntKind.i64.wrap ((IntKind.i64.wrap (y498+(x273.1.length:Int)))+1)).toNat-y498.toNat)) [] rfl (snd_slice_r _ _ _ _ _ _ 0 0 ((y500).length) y498 (IntKind.i64.wrap ((IntKind.i64.wrap (y498+(x273.1.length:Int)))+1)) rfl underlying22 si117 rfl rfl rfl rfl rfl h1216.1 h1216.2.1 h1216.2.2) rfl<|.g 2 rfl<|.bind fun x531 h1217=>.st rfl (cl (CC.h h1217) [0] [] [true] rfl (.cons (.row _ _ _ _ _ rfl)<|.l<|.i<|.nil) (.cons trivial (renV_rw _ _) .nil) fnil (.cons (renV_rw _ _) .nil) (.bool _) (.turned .nil) rfl) rfl<|.guard fun h1218=>?_
     refine .weak ?_ (fun a w h=>Conc.relen h 9 ((x531.2).length) rfl h1218.symm)
     refine .g 2 rfl<|?_
     refine .cut (fun x:Int × (List Int)=>(quo_long_j5 y498 y499 (fun z0 z1 z2=>quo_long_l2 x273 x272 n2 z0 z1 z2) x.1 x.2,[eL 1 x273.1,(4,some (.row 1 (kInt .u32).sz 0 ((y499).length))),eI 7 x272,eI 8 (x273.1.length:Int),(9,some (.row 0 (kInt .u32).sz 0 ((x.2).length))),eI 12 y498,eX 14 x.1],[(1,(rwK (kInt .u32) 117 y499)),(0,(rwK (kInt .u32) 117 x.2))])) ?_ ?_
     ·rintro ⟨y533,y534⟩
      dsimp only [quo_long_j5]
      refine .g 6 rfl<|.guard fun h1224=>?_
      obtain ⟨h12241,h12242⟩:=h1224
      refine .sv (.rptr 1 (kInt .u32).sz y498.toNat 0) [] rfl (idx_r (snd_index_r _ _ _ _ _ 1 0 ((y499).length) _ y498 rfl underlying22 si117 rfl rfl rfl rfl h12241 (by omega)) (Nat.zero_add _)) rfl<|.sm [(1,(rwK (kInt .u32) 117 ((y499).set y498.toNat (IntKind.u32.wrap y533))))] rfl (snd_storeK_sca (kInt .u32) _ _ _ 1 y498.toNat _ _ (IntKind.u32.wrap y533) _ rfl rfl rfl sc117 rfl rfl rfl rfl rfl rfl (by first | omega | (simp only [List.length_set]; omega))) rfl<|?_
      refine .weak ?_ (fun a w h=>Conc.relen h 4 ((((y499).set y498.toNat (IntKind.u32.wrap y533))).length) rfl List.length_set.symm)
      refine .g 3 rfl<|.jw (h1167 (((y499).set y498.toNat (IntKind.u32.wrap y533)),y534)) [(1,1),(0,0)] rfl
     ·intro h1225
      refine .cd rfl (fun _ _=>?_) fun _ _=>?_
      ·refine .g 14 rfl<|.guard fun h1228=>.sv (.row 0 (kInt .u32).sz (0+y498.toNat) ((IntKind.i64.wrap ((IntKind.i64.wrap (y498+(x273.1.length:Int)))+1)).toNat-y498.toNat)) [] rfl (snd_slice_r _ _ _ _ _ _ 0 0 ((x531.2).length) y498 (IntKind.i64.wrap ((IntKind.i64.wrap (y498+(x273.1.length:Int)))+1)) rfl underlying22 si117 rfl rfl rfl rfl rfl h1228.1 h1228.2.1 h1228.2.2) rfl<|.g 1 rfl<|.bind fun x535 h1229=>.st rfl (cl (CC.h h1229) [0] [] [true] rfl (.cons (.row _ _ _ _ _ rfl)<|.l<|.nil) (.cons trivial (renV_rw _ _) .nil) fnil (.cons (renV_rw _ _) .nil) (ren_tupL .nil) (.turned .nil) rfl) rfl<|.guard fun h1230=>?_
       refine .weak ?_ (fun a w h=>Conc.relen h 9 ((x535).length) rfl h1230.symm)
       refine .g 1 rfl<|.jw (h1225 ((IntKind.u64.wrap (y530-1)),x535)) [(1,1),(0,0)] rfl
      ·refine .g 1 rfl<|.jw (h1225 (y530,x531.2)) [(1,1),(0,0)] rfl
    ·intro h1231
     refine .g 1 rfl<|?_
     refine .lp (fun n (x:Int × Int)=>quo_long_l6 x273 y498 y500 y499 (fun z0 z1 z2=>quo_long_l2 x273 x272 n2 z0 z1 z2) n x.1 x.2) (fun x=>([eL 1 x273.1,(4,some (.row 1 (kInt .u32).sz 0 ((y499).length))),eI 7 x272,eI 8 (x273.1.length:Int),(9,some (.row 0 (kInt .u32).sz 0 ((y500).length))),eI 12 y498,eX 14 x.1,eX 15 x.2],[(1,(rwK (kInt .u32) 117 y499)),(0,(rwK (kInt .u32) 117 y500))])) ((IntKind.u64.wrap ((orI .u64 (shlI .u64 (IntKind.u64.wrap ((y500).getD ((IntKind.i64.wrap (y498+(x273.1.length:Int))).toNat) (kInt .u32).z)) 32) (IntKind.u64.wrap ((y500).getD ((IntKind.i64.wrap ((IntKind.i64.wrap (y498+(x273.1.length:Int)))-1)).toNat) (kInt .u32).z))).tdiv (IntKind.u64.wrap (x273.1.getD ((IntKind.i64.wrap ((x273.1.length:Int)-1)).toNat) (kInt .u32).z)))),((orI .u64 (shlI .u64 (IntKind.u64.wrap ((y500).getD ((IntKind.i64.wrap (y498+(x273.1.length:Int))).toNat) (kInt .u32).z)) 32) (IntKind.u64.wrap ((y500).getD ((IntKind.i64.wrap ((IntKind.i64.wrap (y498+(x273.1.length:Int)))-1)).toNat) (kInt .u32).z))).tmod (IntKind.u64.wrap (x273.1.getD ((IntKind.i64.wrap ((x273.1.length:Int)-1)).toNat) (kInt .u32).z)))) [(1,1),(0,0)] rfl ?_
     rintro n6 ⟨y540,y541⟩
     try dsimp only
     rw [quo_long_l6]
     refine .g 2 rfl<|?_
     refine .cut (fun x:Bool=>(quo_long_j7 x273 y541 y498 y500 y499 (fun z0 z1 z2=>quo_long_l2 x273 x272 n2 z0 z1 z2) y540 (fun z0 z1=>quo_long_l6 x273 y498 y500 y499 (fun z0 z1 z2=>quo_long_l2 x273 x272 n2 z0 z1 z2) n6 z0 z1) x,[eL 1 x273.1,(4,some (.row 1 (kInt .u32).sz 0 ((y499).length))),eI 7 x272,eI 8 (x273.1.length:Int),(9,some (.row 0 (kInt .u32).sz 0 ((y500).length))),eI 12 y498,eX 14 y540,eX 15 y541,eB 114 x],[(1,(rwK (kInt .u32) 117 y499)),(0,(rwK (kInt .u32) 117 y500))])) ?_ ?_
     ·rintro y542
      dsimp only [quo_long_j7]
      refine .g 1 rfl<|?_
      refine .cd rfl (fun _ _=>?_) fun _ _=>?_
      ·refine .g 16 rfl<|.ix rfl rfl<|.g 12 rfl<|?_
       refine .cd rfl (fun _ _=>?_) fun _ _=>?_
       ·refine .g 4 rfl<|.jw (h1231 (IntKind.u64.wrap (y540-1))) [(1,1),(0,0)] rfl
       ·refine .g 2 rfl<|.ag ((IntKind.u64.wrap (y540-1)),(IntKind.u64.wrap (y541+(IntKind.u64.wrap (x273.1.getD ((IntKind.i64.wrap ((x273.1.length:Int)-1)).toNat) (kInt .u32).z))))) [(1,1),(0,0)] rfl
      ·refine .g 4 rfl<|.jw (h1231 y540) [(1,1),(0,0)] rfl
     ·intro h1271
      refine .g 4 rfl<|?_
      refine .gd 93 rfl (fun _=>?_) fun _=>?_
      ·refine .g 21 rfl<|.dn (by kernel_rfl)<|.jw (h1271 true) [(1,1),(0,0)] rfl
      ·refine .g 4 rfl<|.ix rfl rfl<|.g 10 rfl<|.guard fun h1274=>?_
       obtain ⟨h12741,h12742⟩:=h1274
       refine .sv (.rptr 0 (kInt .u32).sz ((IntKind.i64.wrap ((IntKind.i64.wrap (y498+(x273.1.length:Int)))-2)).toNat) 0) [] rfl (idx_r (snd_index_r _ _ _ _ _ 0 0 ((y500).length) _ (IntKind.i64.wrap ((IntKind.i64.wrap (y498+(x273.1.length:Int)))-2)) rfl underlying22 si117 rfl rfl rfl rfl h12741 (by omega)) (Nat.zero_add _)) rfl<|.sv (.int .u32 ((y500).getD ((IntKind.i64.wrap ((IntKind.i64.wrap (y498+(x273.1.length:Int)))-2)).toNat) (kInt .u32).z)) [] rfl (snd_loadK_sca (kInt .u32) _ _ 0 ((IntKind.i64.wrap ((IntKind.i64.wrap (y498+(x273.1.length:Int)))-2)).toNat) 0 _ _ rfl sc117 rfl rfl rfl rfl (by first | omega | (simp only [List.length_set]; omega)) (by decide)) rfl<|.g 4 rfl<|.dn (by kernel_rfl)<|.jw (h1271 (decide ((IntKind.u64.wrap (y540*(IntKind.u64.wrap (x273.1.getD ((IntKind.i64.wrap ((x273.1.length:Int)-2)).toNat) (kInt .u32).z))))>(orI .u64 (shlI .u64 y541 32) (IntKind.u64.wrap ((y500).getD ((IntKind.i64.wrap ((IntKind.i64.wrap (y498+(x273.1.length:Int)))-2)).toNat) (kInt .u32).z)))))) [(1,1),(0,0)] rfl
  ·refine .g 4 rfl<|.jw (h640 (y499,y500)) [(1,1),(0,0)] rfl
instance quo_DivMod_i (a0:List Int) (a1:List Int):PC (quo_DivMod a0 a1) Tryz.prog 184 [(slK (kInt .u32) a0),(slK (kInt .u32) a1)] (fun r=>(.tup [(slK (kInt .u32) r.1),(slK (kInt .u32) r.2.1),(.bool r.2.2)])):=pc func184 (by kernel_rfl) rfl fun E=>by
 unfold quo_DivMod
 refine .g 2 rfl<|.st rfl (as0 rfl) rfl<|.st rfl (as0 rfl) rfl<|.g 6 rfl<|.p0 rfl rfl fun x8 _=>.g 6 rfl<|.p0 rfl rfl fun x9 _=>.g 8 rfl<|.ln rfl rfl<|.g 4 rfl<|?_
 refine .cd rfl (fun _ _=>?_) fun _ _=>?_
 ·refine .g 2 rfl<|.st rfl (as0 rfl) rfl<|.st rfl (as0 rfl) rfl<|.g 6 rfl<|.fi rfl rfl
 ·refine .g 4 rfl<|.p0 rfl rfl fun x12 _=>.g 4 rfl<|?_
  refine .cd rfl (fun _ _=>?_) fun _ _=>?_
  ·refine .g 3 rfl<|.st rfl (as0 rfl) rfl<|.g 7 rfl<|.fi rfl rfl
  ·refine .g 3 rfl<|.ln rfl rfl<|.g 4 rfl<|?_
   refine .cd rfl (fun _ _=>?_) fun _ _=>?_
   ·refine .g 4 rfl<|.ix rfl rfl<|.g 1 rfl<|.p0 rfl rfl fun x13 _=>.g 11 rfl<|.fi rfl rfl
   ·refine .g 7 rfl<|.p0 rfl rfl fun x14 _=>.g 9 rfl<|.fi rfl rfl
instance dw_cut_i (a0:Bool) (a1:List Int) (a2:Int) (a3:Bool) (a4:Int) (a5:Bool) (a6:Int) (a7:Bool) (a8:List Int) (a9:Int):CC (dw_cut a0 a1 a2 a3 a4 a5 a6 a7 a8 a9) Tryz.prog 185 [(.ptr 0 0),(.bool a0),(slK (kInt .u32) a1),(.int .i64 a2),(.bool a3),(.int .i64 a4),(.bool a5)] [(.live 174 [(.int .i64 a6),(.bool a7),(slK (kInt .u32) a8),(.int .i64 a9)])] (fun r=>(.tup [])) (fun r=>[(.live 174 [(.int .i64 a6),(.bool r.1),(slK (kInt .u32) r.2.1),(.int .i64 r.2.2)])]):=cc func185 (by kernel_rfl) rfl fun E=>by
 unfold dw_cut
 refine .g 4 rfl<|.p0 rfl rfl fun x68 _=>.g 11 rfl<|?_
 refine .cut (fun x:(List Int) × Int × Bool=>(dw_cut_j1 a0 a5 x.1 x.2.1 x.2.2,[eP 0 0,eB 1 a0,eL 2 x.1,eI 3 x.2.1,eB 4 x.2.2,eB 6 a5],[(0,(.live 174 [(.int .i64 a6),(.bool a7),(slK (kInt .u32) a8),(.int .i64 a9)]))])) ?_ ?_
 ·rintro ⟨y97,y98,y99⟩
  dsimp only [dw_cut_j1]
  refine .g 3 rfl<|?_
  refine .cut (fun x:Bool=>(dw_cut_j2 y97 a0 y98 x,[eP 0 0,eB 1 a0,eL 2 y97,eI 3 y98,eB 43 x],[(0,(.live 174 [(.int .i64 a6),(.bool a7),(slK (kInt .u32) a8),(.int .i64 a9)]))])) ?_ ?_
  ·rintro y100
   dsimp only [dw_cut_j2]
   refine .g 1 rfl<|?_
   refine .cut (fun x:(List Int)=>(dw_cut_j3 a0 y98 x,[eP 0 0,eB 1 a0,eL 2 x,eI 3 y98],[(0,(.live 174 [(.int .i64 a6),(.bool a7),(slK (kInt .u32) a8),(.int .i64 a9)]))])) ?_ ?_
   ·rintro y103
    dsimp only [dw_cut_j3]
    refine .g 6 rfl<|.p0 rfl rfl fun x104 _=>.g 4 rfl<|.fi rfl rfl
   ·intro h47
    refine .cd rfl (fun _ _=>?_) fun _ _=>?_
    ·refine .g 2 rfl<|.p0 rfl rfl fun x105 _=>.p0 rfl rfl fun x106 _=>.g 2 rfl<|.jw (h47 x106) [(0,0)] rfl
    ·refine .g 1 rfl<|.jw (h47 y97) [(0,0)] rfl
  ·intro h52
   refine .g 3 rfl<|?_
   refine .gd 41 rfl (fun _=>?_) fun _=>?_
   ·refine .g 3 rfl<|.jw (h52 a5) [(0,0)] rfl
   ·refine .g 3 rfl<|.jw (h52 false) [(0,0)] rfl
 ·intro h54
  refine .cd rfl (fun _ _=>?_) fun _ _=>?_
  ·refine .g 6 rfl<|?_
   refine .cut (fun x:Bool=>(dw_cut_j4 a1 x68 a4 a0 a5 a2 x,[eP 0 0,eB 1 a0,eL 2 a1,eI 3 a2,eB 4 x,eB 6 a5,eI 14 (IntKind.i64.wrap (x68-a4))],[(0,(.live 174 [(.int .i64 a6),(.bool a7),(slK (kInt .u32) a8),(.int .i64 a9)]))])) ?_ ?_
   ·rintro y120
    dsimp only [dw_cut_j4]
    refine .g 4 rfl<|.p0 rfl rfl fun x121 _=>.g 6 rfl<|.jw (h54 (x121,(IntKind.i64.wrap (a2+(IntKind.i64.wrap (x68-a4)))),y120)) [(0,0)] rfl
   ·intro h76
    refine .g 1 rfl<|?_
    refine .lp (fun n (x:Bool × Int)=>dw_cut_l5 x68 a4 a1 a0 a5 a2 n x.1 x.2) (fun x=>([eP 0 0,eB 1 a0,eL 2 a1,eI 3 a2,eB 4 x.1,eB 6 a5,eI 14 (IntKind.i64.wrap (x68-a4)),eI 15 x.2],[(0,(.live 174 [(.int .i64 a6),(.bool a7),(slK (kInt .u32) a8),(.int .i64 a9)]))])) (a3,0) [(0,0)] rfl ?_
    rintro n5 ⟨y130,y131⟩
    try dsimp only
    rw [dw_cut_l5]
    refine .g 2 rfl<|?_
    refine .cut (fun x:Bool=>(dw_cut_j6 a1 y131 (fun z0 z1=>dw_cut_l5 x68 a4 a1 a0 a5 a2 n5 z0 z1) x68 a4 a0 a5 a2 y130 x,[eP 0 0,eB 1 a0,eL 2 a1,eI 3 a2,eB 4 y130,eB 6 a5,eI 14 (IntKind.i64.wrap (x68-a4)),eI 15 y131,eB 28 x],[(0,(.live 174 [(.int .i64 a6),(.bool a7),(slK (kInt .u32) a8),(.int .i64 a9)]))])) ?_ ?_
    ·rintro y132
     dsimp only [dw_cut_j6]
     refine .g 1 rfl<|?_
     refine .cd rfl (fun _ _=>?_) fun _ _=>?_
     ·refine .g 7 rfl<|.p0 rfl rfl fun x134 _=>.g 9 rfl<|.ag (x134,(IntKind.i64.wrap (y131+1))) [(0,0)] rfl
     ·refine .g 4 rfl<|.jw (h76 y130) [(0,0)] rfl
    ·intro h94
     refine .g 5 rfl<|?_
     refine .gd 25 rfl (fun _=>?_) fun _=>?_
     ·refine .g 4 rfl<|.jw (h94 (!y130)) [(0,0)] rfl
     ·refine .g 4 rfl<|.jw (h94 false) [(0,0)] rfl
  ·refine .g 1 rfl<|.jw (h54 (a1,a2,a3)) [(0,0)] rfl
instance dyad_inRange_i (a0:AD):PC (dyad_inRange a0) Tryz.prog 176 [(.agg (kD.enc a0))] (fun r=>(.bool r)):=pc func176 (by kernel_rfl) rfl fun E=>by
 unfold dyad_inRange
 refine .g 7 rfl<|?_
 refine .cut (fun x:Bool=>(dyad_inRange_j1 x,[eB 2 x],[])) ?_ ?_
 ·rintro y17
  dsimp only [dyad_inRange_j1]
  refine .g 2 rfl<|.fi rfl rfl
 ·intro h9
  refine .g 2 rfl<|.p0 rfl rfl fun x18 _=>.g 1 rfl<|?_
  refine .gd 5 rfl (fun _=>?_) fun _=>?_
  ·refine .g 18 rfl<|.jw (h9 true) [] rfl
  ·refine .g 1 rfl<|.p0 rfl rfl fun x19 _=>.p0 rfl rfl fun x20 _=>.g 1 rfl<|?_
   refine .gd 9 rfl (fun _=>?_) fun _=>?_
   ·refine .g 2 rfl<|.p0 rfl rfl fun x21 _=>.g 2 rfl<|?_
    refine .gd 14 rfl (fun _=>?_) fun _=>?_
    ·refine .g 3 rfl<|.p0 rfl rfl fun x22 _=>.g 5 rfl<|.jw (h9 (decide (x22≤262144))) [] rfl
    ·refine .g 9 rfl<|.jw (h9 false) [] rfl
   ·refine .g 14 rfl<|.jw (h9 false) [] rfl
instance dw_told_i (a0:Int) (a1:Bool) (a2:List Int) (a3:Int):CC (dw_told a0 a1 a2 a3) Tryz.prog 131 [(.ptr 0 0)] [(.live 174 [(.int .i64 a0),(.bool a1),(slK (kInt .u32) a2),(.int .i64 a3)])] (fun r=>(.tup [(.agg (kD.enc (⟨((r.1).M),(r.1).E⟩:AD))),(.int .i64 r.2.1)])) (fun r=>[(.live 174 [(.int .i64 r.2.2),(.bool a1),(slK (kInt .u32) a2),(.int .i64 a3)])]):=cc func131 (by kernel_rfl) rfl fun E=>by
 unfold dw_told
 refine .g 8 rfl<|?_
 refine .cut (fun x:Bool × Int=>(dw_told_j1 a1 a2 a3 x.1 x.2,[eP 0 0,eP 2 1,eB 21 x.1],[(0,(.live 174 [(.int .i64 x.2),(.bool a1),(slK (kInt .u32) a2),(.int .i64 a3)])),(1,(.live 26 [(.bool false),(slK (kInt .u32) []),(.int .i64 0)]))])) ?_ ?_
 ·rintro ⟨y12,y13⟩
  dsimp only [dw_told_j1]
  refine .g 1 rfl<|?_
  refine .cd rfl (fun _ _=>?_) fun _ _=>?_
  ·refine .g 10 rfl<|.dn (by kernel_rfl)<|.g 3 rfl<|.fi rfl rfl
  ·refine .g 13 rfl<|.fi rfl rfl
 ·intro h7
  refine .g 11 rfl<|?_
  refine .gd 13 rfl (fun _=>?_) fun _=>?_
  ·refine .g 6 rfl<|.bind fun x14 h9=>.st rfl (cl (CC.h h9) [0] [] [true] rfl (.p rfl<|.b<|.i<|.nil) (.p rfl (.i<|.b<|.l<|.i<|.nil) .nil) fnil (.cons (.v (.i<|.b<|.l<|.i<|.nil)) .nil) (.bool _) (.turned .nil) rfl) rfl<|.g 1 rfl<|.dn (by kernel_rfl)<|.jw (h7 ((!x14.1),x14.2)) [(0,0),(1,1)] rfl
  ·refine .g 4 rfl<|.p0 rfl rfl fun x15 _=>.g 1 rfl<|.bind fun x16 h11=>.st rfl (cl (CC.h h11) [0] [] [true] rfl (.p rfl<|.b<|.i<|.nil) (.p rfl (.i<|.b<|.l<|.i<|.nil) .nil) fnil (.cons (.v (.i<|.b<|.l<|.i<|.nil)) .nil) (.bool _) (.turned .nil) rfl) rfl<|.g 1 rfl<|.dn (by kernel_rfl)<|.jw (h7 ((!x16.1),x16.2)) [(0,0),(1,1)] rfl
instance dyad_Div_i (a0:AD) (a1:AD) (a2:Int) (a3:Bool):PC (dyad_Div a0 a1 a2 a3) Tryz.prog 87 [(.agg (kD.enc a0)),(.agg (kD.enc a1)),(.int .i64 a2),(.bool a3)] (fun r=>(.tup [(.agg (kD.enc (⟨((r.1).M),(r.1).E⟩:AD))),(.int .i64 r.2)])):=pc func87 (by kernel_rfl) rfl fun E=>by
 unfold dyad_Div
 refine .g 17 rfl<|?_
 refine .cut (fun x:Bool × Int=>(dyad_Div_j1 a1 a0 a2 a3 x.1 x.2,[eI 2 a2,eB 3 a3,eP 4 0,eP 5 1,eP 8 2,eP 10 3,eB 41 x.1],[(0,(.live 26 [(.bool a0.M.Neg),(slK (kInt .u32) a0.M.Mag),(.int .i64 a0.E)])),(1,(.live 26 [(.bool a1.M.Neg),(slK (kInt .u32) a1.M.Mag),(.int .i64 a1.E)])),(2,(.live 26 [(.bool false),(slK (kInt .u32) []),(.int .i64 0)])),(3,(.live 174 [(.int .i64 x.2),(.bool false),(slK (kInt .u32) []),(.int .i64 0)]))])) ?_ ?_
 ·rintro ⟨y32,y33⟩
  dsimp only [dyad_Div_j1]
  refine .g 1 rfl<|?_
  refine .cut (fun x:Bool × (List Int) × Int=>(dyad_Div_j2 y33 x.1 x.2.1 x.2.2,[eP 8 2,eP 10 3],[(2,(.live 26 [(.bool false),(slK (kInt .u32) []),(.int .i64 0)])),(3,(.live 174 [(.int .i64 y33),(.bool x.1),(slK (kInt .u32) x.2.1),(.int .i64 x.2.2)]))])) ?_ ?_
  ·rintro ⟨y39,y40,y41⟩
   dsimp only [dyad_Div_j2]
   refine .g 4 rfl<|.bind fun x42 h16=>.st rfl (cl (CC.h h16) [3] [] [true] rfl (.p rfl<|.nil) (.p rfl (.i<|.b<|.l<|.i<|.nil) .nil) fnil (.cons (.v (.i<|.b<|.l<|.i<|.nil)) .nil) (ren_tupL (.a kD<|.i<|.nil)) (.turned .nil) rfl) rfl<|.g 7 rfl<|.fi rfl rfl
  ·intro h17
   refine .cd rfl (fun _ _=>?_) fun _ _=>?_
   ·refine .g 7 rfl<|.p0 rfl rfl fun x43 _=>.g 4 rfl<|.p0 rfl rfl fun x44 _=>.g 3 rfl<|.dn (by kernel_rfl)<|.g 19 rfl<|.p0 rfl rfl fun x45 _=>.g 3 rfl<|.p0 rfl rfl fun x46 _=>.g 7 rfl<|.dn (by kernel_rfl)<|.g 13 rfl<|.ln rfl rfl<|?_
    refine .g 5 rfl<|.bind fun x47 h24=>.st rfl (cl (CC.h h24) [3] [] [true] rfl (.p rfl<|.b<|.l<|.i<|.b<|.i<|.b<|.nil) (.p rfl (.i<|.b<|.l<|.i<|.nil) .nil) fnil (.cons (.v (.i<|.b<|.l<|.i<|.nil)) .nil) (ren_tupL .nil) (.turned .nil) rfl) rfl<|.g 1 rfl<|.jw (h17 (x47.1,x47.2.1,x47.2.2)) [(2,2),(3,3)] rfl
   ·refine .g 1 rfl<|.jw (h17 (false,[],0)) [(2,2),(3,3)] rfl
 ·intro h25
  refine .g 4 rfl<|.st rfl (bs kD [a0,a1] rfl rfl) rfl<|.bind fun x48 h26=>.st rfl (cl (CC.h h26) [3] [] [true] rfl (.p rfl<|.l<|.nil) (.p rfl (.i<|.b<|.l<|.i<|.nil) .nil) fnil (.cons (.v (.i<|.b<|.l<|.i<|.nil)) .nil) (.bool _) (.turned .nil) rfl) rfl<|.g 1 rfl<|?_
  refine .gd 23 rfl (fun _=>?_) fun _=>?_
  ·refine .g 2 rfl<|.bind fun x49 h28=>.st rfl (cl (CC.h h28) [3] [] [true] rfl (.p rfl<|.i<|.nil) (.p rfl (.i<|.b<|.l<|.i<|.nil) .nil) fnil (.cons (.v (.i<|.b<|.l<|.i<|.nil)) .nil) (.bool _) (.turned .nil) rfl) rfl<|.g 2 rfl<|?_
   refine .gd 28 rfl (fun _=>?_) fun _=>?_
   ·refine .g 4 rfl<|.p0 rfl rfl fun x50 _=>.g 1 rfl<|.bind fun x51 h31=>.st rfl (cl (CC.h h31) [3] [] [true] rfl (.p rfl<|.b<|.i<|.nil) (.p rfl (.i<|.b<|.l<|.i<|.nil) .nil) fnil (.cons (.v (.i<|.b<|.l<|.i<|.nil)) .nil) (.bool _) (.turned .nil) rfl) rfl<|.g 2 rfl<|?_
    refine .gd 37 rfl (fun _=>?_) fun _=>?_
    ·refine .g 1 rfl<|.p0 rfl rfl fun x52 _=>.g 2 rfl<|.dn (by kernel_rfl)<|.jw (h25 ((!x52),x51.2)) [(0,0),(1,1),(2,2),(3,3)] rfl
    ·refine .g 4 rfl<|.dn (by kernel_rfl)<|.jw (h25 (false,x51.2)) [(0,0),(1,1),(2,2),(3,3)] rfl
   ·refine .g 13 rfl<|.dn (by kernel_rfl)<|.jw (h25 (false,x49.2)) [(0,0),(1,1),(2,2),(3,3)] rfl
  ·refine .g 18 rfl<|.dn (by kernel_rfl)<|.jw (h25 (false,x48.2)) [(0,0),(1,1),(2,2),(3,3)] rfl
instance cv_Div_1_1_i (a0:AD) (a1:AD) (a2:Int) (a3:Int) (a4:Bool):CC (cv_Div_1_1 a0 a1 a2 a3 a4) Tryz.prog 190 [(.agg (kD.enc a0)),(.agg (kD.enc a1)),(.ptr 0 0),(.ptr 2 0)] [(.live 45 [(.ptr 1 0)]),(.live 53 [(.int .i64 a2),(.int .i64 a3)]),(.live 4 [(.bool a4)])] (fun r=>(.tup [(.agg (kD.enc (⟨((r.1).M),(r.1).E⟩:AD))),(.int .i64 r.2)])) (fun r=>[(.live 45 [(.ptr 1 0)]),(.live 53 [(.int .i64 a2),(.int .i64 a3)]),(.live 4 [(.bool a4)])]):=cc func190 (by kernel_rfl) rfl fun E=>by
 unfold cv_Div_1_1
 refine .g 17 rfl<|.p0 rfl rfl fun x2 _=>.g 4 rfl<|.dn (by kernel_rfl)<|.g 2 rfl<|.fi rfl rfl
instance cv_take_i (a0:AD) (a1:Int) (a2:Int) (a3:Int):CC (cv_take a0 a1 a2 a3) Tryz.prog 186 [(.ptr 0 0),(.agg (kD.enc a0)),(.int .i64 a1)] [(.live 53 [(.int .i64 a2),(.int .i64 a3)])] (fun r=>(.agg (kD.enc (⟨((r.1).M),(r.1).E⟩:AD)))) (fun r=>[(.live 53 [(.int .i64 r.2),(.int .i64 a3)])]):=cc func186 (by kernel_rfl) rfl fun E=>by
 unfold cv_take
 refine .g 13 rfl<|.bind fun x2 h1=>.st rfl (cl (CC.h h1) [0] [] [true] rfl (.p rfl<|.i<|.nil) (.p rfl (.i<|.i<|.nil) .nil) fnil (.cons (.v (.i<|.i<|.nil)) .nil) (.bool _) (.turned .nil) rfl) rfl<|.g 3 rfl<|?_
 refine .cd rfl (fun _ _=>?_) fun _ _=>?_
 ·refine .g 8 rfl<|.fi rfl rfl
 ·refine .g 9 rfl<|.fi rfl rfl
instance cv_four_e8e7_i (a0:AI) (a1:AI) (a2:Int) (a3:Int) (a4:Bool):CC (cv_four_e8e7 a0 a1 a2 a3 a4) Tryz.prog 89 [(.ptr 0 0),(.agg (kI.enc a0)),(.agg (kI.enc a1)),(.fn 190 [] [(.ptr 1 0),(.ptr 2 0)])] [(.live 53 [(.int .i64 a2),(.int .i64 a3)]),(.live 45 [(.ptr 0 0)]),(.live 4 [(.bool a4)])] (fun r=>(slK kD r.1)) (fun r=>[(.live 53 [(.int .i64 r.2),(.int .i64 a3)]),(.live 45 [(.ptr 0 0)]),(.live 4 [(.bool a4)])]):=cc func89 (by kernel_rfl) rfl fun E=>by
 unfold cv_four_e8e7
 refine .g 13 rfl<|.st rfl (bs kD [a0.Lo,a0.Hi] rfl rfl) rfl<|.g 4 rfl<|.st rfl (bs kD [a1.Lo,a1.Hi] rfl rfl) rfl<|.g 2 rfl<|.dn (by kernel_rfl)<|.g 8 rfl<|.p0 rfl rfl fun x487 _=>.g 3 rfl<|?_
 refine .cut (fun x:(List AD)=>(cv_four_e8e7_j1 a1 a3 a4 a2 x,[eP 0 0,(3,some (.fn 190 [] [(.ptr 1 0),(.ptr 2 0)])),eP 6 4,eK kD 9 x,eK kD 10 [a1.Lo,a1.Hi]],[(0,(.live 53 [(.int .i64 a2),(.int .i64 a3)])),(1,(.live 45 [(.ptr 0 0)])),(2,(.live 4 [(.bool a4)])),(4,(.live 30 [(.bool a1.Lo.M.Neg),(slK (kInt .u32) a1.Lo.M.Mag),(.int .i64 a1.Lo.E),(.bool a1.Hi.M.Neg),(slK (kInt .u32) a1.Hi.M.Mag),(.int .i64 a1.Hi.E)]))])) ?_ ?_
 ·rintro y488
  dsimp only [cv_four_e8e7_j1]
  refine .g 8 rfl<|.p0 rfl rfl fun x489 _=>.g 3 rfl<|?_
  refine .cut (fun x:(List AD)=>(cv_four_e8e7_j2 y488 a3 a4 a2 x,[eP 0 0,(3,some (.fn 190 [] [(.ptr 1 0),(.ptr 2 0)])),eK kD 9 y488,eK kD 10 x],[(0,(.live 53 [(.int .i64 a2),(.int .i64 a3)])),(1,(.live 45 [(.ptr 0 0)])),(2,(.live 4 [(.bool a4)]))])) ?_ ?_
  ·rintro y490
   dsimp only [cv_four_e8e7_j2]
   refine .g 10 rfl<|.ln rfl rfl<|.g 3 rfl<|?_
   refine .cut (fun x:Int × (List AD)=>(cv_four_e8e7_j3 x.1 x.2,[(11,some (grA kD 3 x.2))],[(0,(.live 53 [(.int .i64 x.1),(.int .i64 a3)])),(1,(.live 45 [(.ptr 0 0)])),(2,(.live 4 [(.bool a4)])),(3,(grV kD 26 x.2))])) ?_ ?_
   ·rintro ⟨y731,y732⟩
    dsimp only [cv_four_e8e7_j3]
    refine .g 8 rfl<|?_
    refine .weak ?_ (fun a w h=>Conc.gr_still kD h 8 3 26 y732 rfl rfl)
    exact .fi rfl rfl
   ·intro h381
    refine .g 1 rfl<|?_
    refine .weak ?_ (fun a w h=>Conc.gr_nil kD h 11 3 26 rfl)
    refine .lo (fun n (x:Int × Int × (List AD))=>cv_four_e8e7_l4 y488 y490 a3 a4 n x.1 x.2.1 x.2.2) (fun x=>([eP 0 0,(3,some (.fn 190 [] [(.ptr 1 0),(.ptr 2 0)])),eK kD 10 y490,(11,some (grA kD 3 x.2.2)),eK kD 42 y488,eI 43 (y488.length:Int),eI 44 x.1],[(0,(.live 53 [(.int .i64 x.2.1),(.int .i64 a3)])),(1,(.live 45 [(.ptr 0 0)])),(2,(.live 4 [(.bool a4)])),(3,(grV kD 26 x.2.2))])) (0,a2,[]) rfl (fun hE=>jn (m:=3) [(0,0),(1,1),(2,2),(3,3)] hE (.p rfl rfl<|.g rfl (ren_fnL _ .nil (.p rfl<|.p rfl<|.nil))<|.l rfl<|.g rfl (ren_gr (K:=kD) (by rfl) [])<|.l rfl<|.i rfl<|.i rfl<|.nil) (.v rfl (.i<|.i<|.nil)<|.v rfl (.p rfl<|.nil)<|.v rfl (.b<|.nil)<|.cons (.refl _) (renV_gr (K:=kD) 26 [])<|.nil) rfl) ?_
    rintro n4 ⟨y892,y893,y894⟩
    try dsimp only
    rw [cv_four_e8e7_l4]
    refine .g 6 rfl<|?_
    refine .cd rfl (fun _ _=>?_) fun _ _=>?_
    ·refine .g 3 rfl<|?_
     refine .cut (fun x:Int × (List AD)=>(cv_four_e8e7_j5 (fun z0 z1 z2=>cv_four_e8e7_l4 y488 y490 a3 a4 n4 z0 z1 z2) y892 x.1 x.2,[eP 0 0,(3,some (.fn 190 [] [(.ptr 1 0),(.ptr 2 0)])),eK kD 10 y490,(11,some (grA kD 3 x.2)),eK kD 42 y488,eI 43 (y488.length:Int),eI 44 y892],[(0,(.live 53 [(.int .i64 x.1),(.int .i64 a3)])),(1,(.live 45 [(.ptr 0 0)])),(2,(.live 4 [(.bool a4)])),(3,(grV kD 26 x.2))])) ?_ ?_
     ·rintro ⟨y933,y934⟩
      dsimp only [cv_four_e8e7_j5]
      refine .g 5 rfl<|.ao ((IntKind.i64.wrap (y892+1)),y933,y934) rfl fun hE=>jn (m:=3) [(0,0),(1,1),(2,2),(3,3)] hE (.p rfl rfl<|.g rfl (ren_fnL _ .nil (.p rfl<|.p rfl<|.nil))<|.l rfl<|.g rfl (ren_gr (K:=kD) (by rfl) y934)<|.l rfl<|.i rfl<|.i rfl<|.nil) (.v rfl (.i<|.i<|.nil)<|.v rfl (.p rfl<|.nil)<|.v rfl (.b<|.nil)<|.cons (.refl _) (renV_gr (K:=kD) 26 y934)<|.nil) rfl
     ·intro h693
      refine .g 3 rfl<|.ix rfl rfl<|.g 8 rfl<|.ln rfl rfl<|.g 3 rfl<|?_
      refine .cut (fun x:Int × (List AD)=>(cv_four_e8e7_j6 (fun z0 z1 z2=>cv_four_e8e7_l4 y488 y490 a3 a4 n4 z0 z1 z2) y892 x.1 x.2,[eP 0 0,(3,some (.fn 190 [] [(.ptr 1 0),(.ptr 2 0)])),eK kD 10 y490,(11,some (grA kD 3 x.2)),eK kD 42 y488,eI 43 (y488.length:Int),eI 44 y892],[(0,(.live 53 [(.int .i64 x.1),(.int .i64 a3)])),(1,(.live 45 [(.ptr 0 0)])),(2,(.live 4 [(.bool a4)])),(3,(grV kD 26 x.2))])) ?_ ?_
      ·rintro ⟨y953,y954⟩
       dsimp only [cv_four_e8e7_j6]
       refine .g 1 rfl<|.jo (h693 (y953,y954)) rfl fun hE=>jn (m:=3) [(0,0),(1,1),(2,2),(3,3)] hE (.p rfl rfl<|.g rfl (ren_fnL _ .nil (.p rfl<|.p rfl<|.nil))<|.l rfl<|.g rfl (ren_gr (K:=kD) (by rfl) y954)<|.l rfl<|.i rfl<|.i rfl<|.nil) (.v rfl (.i<|.i<|.nil)<|.v rfl (.p rfl<|.nil)<|.v rfl (.b<|.nil)<|.cons (.refl _) (renV_gr (K:=kD) 26 y954)<|.nil) rfl
      ·intro h725
       refine .g 1 rfl<|?_
       refine .lo (fun n (x:Int × Int × (List AD))=>cv_four_e8e7_l7 y490 y488 y892 a3 a4 (fun z0 z1 z2=>cv_four_e8e7_l4 y488 y490 a3 a4 n4 z0 z1 z2) n x.1 x.2.1 x.2.2) (fun x=>([eP 0 0,(3,some (.fn 190 [] [(.ptr 1 0),(.ptr 2 0)])),eK kD 10 y490,(11,some (grA kD 3 x.2.2)),eP 13 4,eK kD 42 y488,eI 43 (y488.length:Int),eI 44 y892,eK kD 48 y490,eI 49 (y490.length:Int),eI 50 x.1],[(0,(.live 53 [(.int .i64 x.2.1),(.int .i64 a3)])),(1,(.live 45 [(.ptr 0 0)])),(2,(.live 4 [(.bool a4)])),(3,(grV kD 26 x.2.2)),(4,(.live 26 [(.bool (((y488.getD y892.toNat zAD).M).Neg)),(slK (kInt .u32) (((y488.getD y892.toNat zAD).M).Mag)),(.int .i64 ((y488.getD y892.toNat zAD).E))]))])) (0,y893,y894) rfl (fun hE=>jn (m:=3) [(0,0),(1,1),(2,2),(3,3),(4,4)] hE (.p rfl rfl<|.g rfl (ren_fnL _ .nil (.p rfl<|.p rfl<|.nil))<|.l rfl<|.g rfl (ren_gr (K:=kD) (by rfl) y894)<|.p rfl rfl<|.l rfl<|.i rfl<|.i rfl<|.l rfl<|.i rfl<|.i rfl<|.nil) (.v rfl (.i<|.i<|.nil)<|.v rfl (.p rfl<|.nil)<|.v rfl (.b<|.nil)<|.cons (.refl _) (renV_gr (K:=kD) 26 y894)<|.v rfl (.b<|.l<|.i<|.nil)<|.nil) rfl) ?_
       rintro n7 ⟨y966,y967,y968⟩
       try dsimp only
       rw [cv_four_e8e7_l7]
       refine .g 6 rfl<|?_
       refine .cd rfl (fun _ _=>?_) fun _ _=>?_
       ·refine .g 6 rfl<|.ix rfl rfl<|.g 11 rfl<|.bind fun x971 h753=>.st rfl (cl (CC.h h753) [1,0,2] [] [false,false,false] rfl (.a kD<|.a kD<|.p rfl<|.p rfl<|.nil) (.p rfl (.p rfl<|.nil) (.p rfl (.i<|.i<|.nil) (.p rfl (.b<|.nil) .nil))) fnil (.cons (.v (.p rfl<|.nil)) (.cons (.v (.i<|.i<|.nil)) (.cons (.v (.b<|.nil)) .nil))) (ren_tupL (.a kD<|.i<|.nil)) (.kept rfl (.kept rfl (.kept rfl .nil))) rfl) rfl<|.g 2 rfl<|.bind fun x972 h754=>.st rfl (cl (CC.h h754) [0] [] [true] rfl (.p rfl<|.a kD<|.i<|.nil) (.p rfl (.i<|.i<|.nil) .nil) fnil (.cons (.v (.i<|.i<|.nil)) .nil) (ren_agg (K:=kD) _) (.turned .nil) rfl) rfl<|.st rfl (bs kD [(⟨((x972.1).M),(x972.1).E⟩:AD)] rfl rfl) rfl<|.guard fun h755=>.sv (.row 6 kD.sz 0 (((y968++[(⟨((x972.1).M),(x972.1).E⟩:AD)])).length)) [(6,(rwK kD 26 (y968++[(⟨((x972.1).M),(x972.1).E⟩:AD)]))),(3,.dead)] rfl (snd_appendK_gr kD _ _ _ _ _ 3 6 y968 [(⟨((x972.1).M),(x972.1).E⟩:AD)] rfl underlying67 ze26 sb26 rfl rfl rfl rfl rfl rfl rfl h755) rfl<|.g 8 rfl<|?_
        refine .weak ?_ (fun a w h=>Conc.gr_row kD h 11 6 26 (y968++[(⟨((x972.1).M),(x972.1).E⟩:AD)]) rfl rfl (by first | omega | (simp only [List.length_append,List.length_cons,List.length_set]; omega) | simp))
        exact .ao ((IntKind.i64.wrap (y966+1)),x972.2,(y968++[(⟨((x972.1).M),(x972.1).E⟩:AD)])) rfl fun hE=>jn (m:=3) [(0,0),(1,1),(2,2),(6,3),(4,4)] hE (.p rfl rfl<|.g rfl (ren_fnL _ .nil (.p rfl<|.p rfl<|.nil))<|.l rfl<|.g rfl (ren_gr (K:=kD) (by rfl) (y968++[(⟨((x972.1).M),(x972.1).E⟩:AD)]))<|.p rfl rfl<|.l rfl<|.i rfl<|.i rfl<|.l rfl<|.i rfl<|.i rfl<|.nil) (.v rfl (.i<|.i<|.nil)<|.v rfl (.p rfl<|.nil)<|.v rfl (.b<|.nil)<|.cons (.refl _) (renV_gr (K:=kD) 26 (y968++[(⟨((x972.1).M),(x972.1).E⟩:AD)]))<|.v rfl (.b<|.l<|.i<|.nil)<|.nil) rfl
       ·refine .g 4 rfl<|.jo (h725 (y967,y968)) rfl fun hE=>jn (m:=3) [(0,0),(1,1),(2,2),(3,3)] hE (.p rfl rfl<|.g rfl (ren_fnL _ .nil (.p rfl<|.p rfl<|.nil))<|.l rfl<|.g rfl (ren_gr (K:=kD) (by rfl) y968)<|.l rfl<|.i rfl<|.i rfl<|.nil) (.v rfl (.i<|.i<|.nil)<|.v rfl (.p rfl<|.nil)<|.v rfl (.b<|.nil)<|.cons (.refl _) (renV_gr (K:=kD) 26 y968)<|.nil) rfl
    ·refine .g 4 rfl<|.jo (h381 (y893,y894)) rfl fun hE=>jn (m:=3) [(0,0),(1,1),(2,2),(3,3)] hE (.g rfl (ren_gr (K:=kD) (by rfl) y894)<|.nil) (.v rfl (.i<|.i<|.nil)<|.v rfl (.p rfl<|.nil)<|.v rfl (.b<|.nil)<|.cons (.refl _) (renV_gr (K:=kD) 26 y894)<|.nil) rfl
  ·intro h756
   refine .cd rfl (fun _ _=>?_) fun _ _=>?_
   ·refine .g 2 rfl<|.guard fun h759=>.sv (slK kD ([a1.Lo,a1.Hi].take 1)) [] rfl (snd_sliceK kD _ _ _ _ _ _ 0 1 rfl underlying67 si26 rfl rfl rfl rfl rfl h759) rfl<|.g 2 rfl<|.jw (h756 ([a1.Lo,a1.Hi].take 1)) [(0,0),(1,1),(2,2)] rfl
   ·refine .g 1 rfl<|.jw (h756 [a1.Lo,a1.Hi]) [(0,0),(1,1),(2,2)] rfl
 ·intro h760
  refine .cd rfl (fun _ _=>?_) fun _ _=>?_
  ·refine .g 2 rfl<|.guard fun h763=>.sv (slK kD ([a0.Lo,a0.Hi].take 1)) [] rfl (snd_sliceK kD _ _ _ _ _ _ 0 1 rfl underlying67 si26 rfl rfl rfl rfl rfl h763) rfl<|.g 2 rfl<|.jw (h760 ([a0.Lo,a0.Hi].take 1)) [(0,0),(1,1),(2,2),(4,4)] rfl
  ·refine .g 1 rfl<|.jw (h760 [a0.Lo,a0.Hi]) [(0,0),(1,1),(2,2),(4,4)] rfl
instance iv_ends_i (a0:List AD):PC (iv_ends a0) Tryz.prog 76 [(slK kD a0)] (fun r=>(.tup [(.agg (kD.enc (⟨((r.1).M),(r.1).E⟩:AD))),(.agg (kD.enc (⟨((r.2).M),(r.2).E⟩:AD)))])):=pc func76 (by kernel_rfl) rfl fun E=>by
 unfold iv_ends
 refine .g 9 rfl<|.ix rfl rfl<|.g 2 rfl<|.ix rfl rfl<|.g 3 rfl<|.dn (by kernel_rfl)<|.g 5 rfl<|.guard fun h3=>.sv (slK kD ((a0.take a0.length).drop 1)) [] rfl (snd_sliceK kD _ _ _ _ _ _ 1 (a0.length:Int) rfl underlying67 si26 rfl rfl rfl rfl rfl h3) rfl<|.ln rfl rfl<|.g 3 rfl<|?_
 refine .cut (fun x:Bool × (List Int) × Int × Bool × (List Int) × Int=>(iv_ends_j1 x.1 x.2.1 x.2.2.1 x.2.2.2.1 x.2.2.2.2.1 x.2.2.2.2.2,[eP 2 0,eP 3 1],[(0,(.live 26 [(.bool x.1),(slK (kInt .u32) x.2.1),(.int .i64 x.2.2.1)])),(1,(.live 26 [(.bool x.2.2.2.1),(slK (kInt .u32) x.2.2.2.2.1),(.int .i64 x.2.2.2.2.2)]))])) ?_ ?_
 ·rintro ⟨y193,y194,y195,y196,y197,y198⟩
  dsimp only [iv_ends_j1]
  refine .g 7 rfl<|.dn (by kernel_rfl)<|.g 2 rfl<|.fi rfl rfl
 ·intro h76
  refine .g 1 rfl<|?_
  refine .lp (fun n (x:Int × Bool × (List Int) × Int × Bool × (List Int) × Int)=>iv_ends_l2 a0 n x.1 x.2.1 x.2.2.1 x.2.2.2.1 x.2.2.2.2.1 x.2.2.2.2.2.1 x.2.2.2.2.2.2) (fun x=>([eP 2 0,eP 3 1,eK kD 13 ((a0.take a0.length).drop 1),eI 14 (((a0.take a0.length).drop 1).length:Int),eI 15 x.1],[(0,(.live 26 [(.bool x.2.1),(slK (kInt .u32) x.2.2.1),(.int .i64 x.2.2.2.1)])),(1,(.live 26 [(.bool x.2.2.2.2.1),(slK (kInt .u32) x.2.2.2.2.2.1),(.int .i64 x.2.2.2.2.2.2)]))])) (0,((a0.getD 0 zAD).M).Neg,((a0.getD 0 zAD).M).Mag,(a0.getD 0 zAD).E,((a0.getD 0 zAD).M).Neg,((a0.getD 0 zAD).M).Mag,(a0.getD 0 zAD).E) [(0,0),(1,1)] rfl ?_
  rintro n2 ⟨y238,y239,y240,y241,y242,y243,y244⟩
  try dsimp only
  rw [iv_ends_l2]
  refine .g 6 rfl<|?_
  refine .cd rfl (fun _ _=>?_) fun _ _=>?_
  ·refine .g 6 rfl<|.ix rfl rfl<|.g 10 rfl<|.p0 rfl rfl fun x253 _=>.g 3 rfl<|?_
   refine .cut (fun x:Bool × (List Int) × Int=>(iv_ends_j3 a0 y238 y242 y243 y244 (fun z0 z1 z2 z3 z4 z5 z6=>iv_ends_l2 a0 n2 z0 z1 z2 z3 z4 z5 z6) x.1 x.2.1 x.2.2,[eP 2 0,eP 3 1,eP 5 2,eK kD 13 ((a0.take a0.length).drop 1),eI 14 (((a0.take a0.length).drop 1).length:Int),eI 15 y238],[(0,(.live 26 [(.bool x.1),(slK (kInt .u32) x.2.1),(.int .i64 x.2.2)])),(1,(.live 26 [(.bool y242),(slK (kInt .u32) y243),(.int .i64 y244)])),(2,(.live 26 [(.bool (((((a0.take a0.length).drop 1).getD y238.toNat zAD).M).Neg)),(slK (kInt .u32) (((((a0.take a0.length).drop 1).getD y238.toNat zAD).M).Mag)),(.int .i64 ((((a0.take a0.length).drop 1).getD y238.toNat zAD).E))]))])) ?_ ?_
   ·rintro ⟨y254,y255,y256⟩
    dsimp only [iv_ends_j3]
    refine .g 5 rfl<|.p0 rfl rfl fun x257 _=>.g 3 rfl<|?_
    refine .cut (fun x:Bool × (List Int) × Int=>(iv_ends_j4 (fun z0 z1 z2 z3 z4 z5 z6=>iv_ends_l2 a0 n2 z0 z1 z2 z3 z4 z5 z6) y238 y254 y255 y256 x.1 x.2.1 x.2.2,[eP 2 0,eP 3 1,eK kD 13 ((a0.take a0.length).drop 1),eI 14 (((a0.take a0.length).drop 1).length:Int),eI 15 y238],[(0,(.live 26 [(.bool y254),(slK (kInt .u32) y255),(.int .i64 y256)])),(1,(.live 26 [(.bool x.1),(slK (kInt .u32) x.2.1),(.int .i64 x.2.2)]))])) ?_ ?_
    ·rintro ⟨y258,y259,y260⟩
     dsimp only [iv_ends_j4]
     refine .g 6 rfl<|.ag ((IntKind.i64.wrap (y238+1)),y254,y255,y256,y258,y259,y260) [(0,0),(1,1)] rfl
    ·intro h145
     refine .cd rfl (fun _ _=>?_) fun _ _=>?_
     ·refine .g 4 rfl<|.jw (h145 (((((a0.take a0.length).drop 1).getD y238.toNat zAD).M).Neg,((((a0.take a0.length).drop 1).getD y238.toNat zAD).M).Mag,(((a0.take a0.length).drop 1).getD y238.toNat zAD).E)) [(0,0),(1,1)] rfl
     ·refine .g 1 rfl<|.jw (h145 (y242,y243,y244)) [(0,0),(1,1)] rfl
   ·intro h148
    refine .cd rfl (fun _ _=>?_) fun _ _=>?_
    ·refine .g 4 rfl<|.jw (h148 (((((a0.take a0.length).drop 1).getD y238.toNat zAD).M).Neg,((((a0.take a0.length).drop 1).getD y238.toNat zAD).M).Mag,(((a0.take a0.length).drop 1).getD y238.toNat zAD).E)) [(0,0),(1,1),(2,2)] rfl
    ·refine .g 1 rfl<|.jw (h148 (y239,y240,y241)) [(0,0),(1,1),(2,2)] rfl
  ·refine .g 4 rfl<|.jw (h76 (y239,y240,y241,y242,y243,y244)) [(0,0),(1,1)] rfl
instance cv_out_i (a0:AD) (a1:AD) (a2:Int) (a3:Int):CC (cv_out a0 a1 a2 a3) Tryz.prog 91 [(.ptr 0 0),(.agg (kD.enc a0)),(.agg (kD.enc a1))] [(.live 53 [(.int .i64 a2),(.int .i64 a3)])] (fun r=>(.agg (kI.enc (⟨⟨(((r).Lo).M),((r).Lo).E⟩,⟨(((r).Hi).M),((r).Hi).E⟩⟩:AI)))) (fun r=>[(.live 53 [(.int .i64 a2),(.int .i64 a3)])]):=cc func91 (by kernel_rfl) rfl fun E=>by
 unfold cv_out
 refine .g 18 rfl<|?_
 refine .cd rfl (fun _ _=>?_) fun _ _=>?_
 ·refine .g 8 rfl<|.fi rfl rfl
 ·refine .g 11 rfl<|.fi rfl rfl
end Go.Proofs.YtoakhpdeadglpaaGreat.Gen
