/- Printed by geng.py: a call does what the plain function says. -/
import Derived.Test.YtpcdcpjjekkemaaGreatBessSumGenP1
set_option linter.unusedVariables false
set_option linter.unusedSimpArgs false
set_option maxRecDepth 4000
namespace Go.Proofs.YtpcdcpjjekkemaaGreat.Gen
open Go Go.Abs Go.Proofs Go.Proofs.Tryz
instance quo_take_i (a0:Nat) (a1:Nat) (a2:List Int) (a3:Int) (a4:List Int):CC (quo_take a0 a1 a2 a3 a4) Tryz.prog 122 [(.row 0 (kInt .u32).sz a0 a1),(slK (kInt .u32) a2),(.int .u64 a3)] [(rwK (kInt .u32) 58 a4)] (fun r=>(.bool r.1)) (fun r=>[(rwK (kInt .u32) 58 r.2)]):=cc func122 (by kernel_rfl) rfl fun E=>by
 unfold quo_take
 refine .g 19 rfl<|.ln rfl rfl<|.g 3 rfl<|?_
 refine .cut (fun x:Int × Int × (List Int)=>(quo_take_j1 a2 a1 a0 x.1 x.2.1 x.2.2,[(0,some (.row 0 (kInt .u32).sz a0 a1)),eL 1 a2,eX 7 x.1,eW 8 x.2.1],[(0,(rwK (kInt .u32) 58 x.2.2))])) ?_ ?_
 ·rintro ⟨y47,y48,y49⟩
  dsimp only [quo_take_j1]
  refine .g 5 rfl<|.ln rfl rfl<|.g 2 rfl<|.ln rfl rfl<|.guard fun h31=>?_
  obtain ⟨h311,h312,h313⟩:=h31
  refine .sv (.rptr 0 (kInt .u32).sz (a0+a2.length) 0) [] rfl (idx_r (snd_index_r _ _ _ _ _ 0 a0 a1 _ (a2.length:Int) rfl underlying22 si58 rfl rfl rfl rfl h311 (by omega)) rfl) rfl<|.sv (.int .u32 ((y49).getD (a0+a2.length) (kInt .u32).z)) [] rfl (snd_loadK_sca (kInt .u32) _ _ 0 (a0+a2.length) 0 _ _ rfl sc58 rfl rfl rfl rfl (by first | omega | (simp only [List.length_set]; omega)) (by decide)) rfl<|.g 3 rfl<|.p0 rfl rfl fun x50 _=>.g 3 rfl<|.guard fun h33=>?_
  obtain ⟨h331,h332,h333⟩:=h33
  refine .sv (.rptr 0 (kInt .u32).sz (a0+a2.length) 0) [] rfl (idx_r (snd_index_r _ _ _ _ _ 0 a0 a1 _ (a2.length:Int) rfl underlying22 si58 rfl rfl rfl rfl h331 (by omega)) rfl) rfl<|.sm [(0,(rwK (kInt .u32) 58 ((y49).set (a0+a2.length) x50.1)))] rfl (snd_storeK_sca (kInt .u32) _ _ _ 0 (a0+a2.length) _ _ x50.1 _ rfl rfl rfl sc58 rfl rfl rfl rfl rfl rfl (by first | omega | (simp only [List.length_set]; omega))) rfl<|.g 11 rfl<|.fi rfl rfl
 ·intro h34
  refine .g 1 rfl<|?_
  refine .lp (fun n (x:Int × Int × Int × (List Int))=>quo_take_l2 a2 a1 a0 a3 n x.1 x.2.1 x.2.2.1 x.2.2.2) (fun x=>([(0,some (.row 0 (kInt .u32).sz a0 a1)),eL 1 a2,eX 2 a3,eX 7 x.1,eW 8 x.2.1,eL 12 a2,eI 13 (a2.length:Int),eI 14 x.2.2.1],[(0,(rwK (kInt .u32) 58 x.2.2.2))])) (0,0,0,a4) [(0,0)] rfl ?_
  rintro n2 ⟨y59,y60,y61,y62⟩
  try dsimp only
  rw [quo_take_l2]
  refine .g 6 rfl<|?_
  refine .cd rfl (fun _ _=>?_) fun _ _=>?_
  ·refine .g 7 rfl<|.ix rfl rfl<|.g 28 rfl<|.guard fun h62=>?_
   obtain ⟨h621,h622,h623⟩:=h62
   refine .sv (.rptr 0 (kInt .u32).sz (a0+y61.toNat) 0) [] rfl (idx_r (snd_index_r _ _ _ _ _ 0 a0 a1 _ y61 rfl underlying22 si58 rfl rfl rfl rfl h621 (by omega)) rfl) rfl<|.sv (.int .u32 ((y62).getD (a0+y61.toNat) (kInt .u32).z)) [] rfl (snd_loadK_sca (kInt .u32) _ _ 0 (a0+y61.toNat) 0 _ _ rfl sc58 rfl rfl rfl rfl (by first | omega | (simp only [List.length_set]; omega)) (by decide)) rfl<|.g 3 rfl<|.p0 rfl rfl fun x64 _=>.g 3 rfl<|.guard fun h64=>?_
   obtain ⟨h641,h642,h643⟩:=h64
   refine .sv (.rptr 0 (kInt .u32).sz (a0+y61.toNat) 0) [] rfl (idx_r (snd_index_r _ _ _ _ _ 0 a0 a1 _ y61 rfl underlying22 si58 rfl rfl rfl rfl h641 (by omega)) rfl) rfl<|.sm [(0,(rwK (kInt .u32) 58 ((y62).set (a0+y61.toNat) x64.1)))] rfl (snd_storeK_sca (kInt .u32) _ _ _ 0 (a0+y61.toNat) _ _ x64.1 _ rfl rfl rfl sc58 rfl rfl rfl rfl rfl rfl (by first | omega | (simp only [List.length_set]; omega))) rfl<|.g 8 rfl<|.ag ((shrI .u64 (IntKind.u64.wrap ((IntKind.u64.wrap ((IntKind.u64.wrap (a2.getD y61.toNat (kInt .u32).z))*a3))+y59)) 32),x64.2,(IntKind.i64.wrap (y61+1)),((y62).set (a0+y61.toNat) x64.1)) [(0,0)] rfl
  ·refine .g 4 rfl<|.jw (h34 (y59,y60,y62)) [(0,0)] rfl
instance quo_give_i (a0:Nat) (a1:Nat) (a2:List Int) (a3:List Int):CC (quo_give a0 a1 a2 a3) Tryz.prog 123 [(.row 0 (kInt .u32).sz a0 a1),(slK (kInt .u32) a2)] [(rwK (kInt .u32) 58 a3)] (fun r=>(.tup [])) (fun r=>[(rwK (kInt .u32) 58 r)]):=cc func123 (by kernel_rfl) rfl fun E=>by
 unfold quo_give
 refine .g 9 rfl<|.ln rfl rfl<|.g 3 rfl<|?_
 refine .cut (fun x:Int × (List Int)=>(quo_give_j1 a2 a1 a0 x.1 x.2,[(0,some (.row 0 (kInt .u32).sz a0 a1)),eL 1 a2,eW 4 x.1],[(0,(rwK (kInt .u32) 58 x.2))])) ?_ ?_
 ·rintro ⟨y39,y40⟩
  dsimp only [quo_give_j1]
  refine .g 4 rfl<|.ln rfl rfl<|.guard fun h31=>?_
  obtain ⟨h311,h312,h313⟩:=h31
  refine .sv (.rptr 0 (kInt .u32).sz (a0+a2.length) 0) [] rfl (idx_r (snd_index_r _ _ _ _ _ 0 a0 a1 _ (a2.length:Int) rfl underlying22 si58 rfl rfl rfl rfl h311 (by omega)) rfl) rfl<|.sv (.int .u32 ((y40).getD (a0+a2.length) (kInt .u32).z)) [] rfl (snd_loadK_sca (kInt .u32) _ _ 0 (a0+a2.length) 0 _ _ rfl sc58 rfl rfl rfl rfl (by first | omega | (simp only [List.length_set]; omega)) (by decide)) rfl<|.g 2 rfl<|.guard fun h32=>?_
  obtain ⟨h321,h322,h323⟩:=h32
  refine .sv (.rptr 0 (kInt .u32).sz (a0+a2.length) 0) [] rfl (idx_r (snd_index_r _ _ _ _ _ 0 a0 a1 _ (a2.length:Int) rfl underlying22 si58 rfl rfl rfl rfl h321 (by omega)) rfl) rfl<|.sm [(0,(rwK (kInt .u32) 58 ((y40).set (a0+a2.length) (IntKind.u32.wrap (((y40).getD (a0+a2.length) (kInt .u32).z)+y39)))))] rfl (snd_storeK_sca (kInt .u32) _ _ _ 0 (a0+a2.length) _ _ (IntKind.u32.wrap (((y40).getD (a0+a2.length) (kInt .u32).z)+y39)) _ rfl rfl rfl sc58 rfl rfl rfl rfl rfl rfl (by first | omega | (simp only [List.length_set]; omega))) rfl<|.g 1 rfl<|.fi rfl rfl
 ·intro h33
  refine .g 1 rfl<|?_
  refine .lp (fun n (x:Int × Int × (List Int))=>quo_give_l2 a2 a1 a0 n x.1 x.2.1 x.2.2) (fun x=>([(0,some (.row 0 (kInt .u32).sz a0 a1)),eL 1 a2,eW 4 x.1,eL 7 a2,eI 8 (a2.length:Int),eI 9 x.2.1],[(0,(rwK (kInt .u32) 58 x.2.2))])) (0,0,a3) [(0,0)] rfl ?_
  rintro n2 ⟨y48,y49,y50⟩
  try dsimp only
  rw [quo_give_l2]
  refine .g 6 rfl<|?_
  refine .cd rfl (fun _ _=>?_) fun _ _=>?_
  ·refine .g 7 rfl<|.ix rfl rfl<|.g 10 rfl<|.guard fun h61=>?_
   obtain ⟨h611,h612,h613⟩:=h61
   refine .sv (.rptr 0 (kInt .u32).sz (a0+y49.toNat) 0) [] rfl (idx_r (snd_index_r _ _ _ _ _ 0 a0 a1 _ y49 rfl underlying22 si58 rfl rfl rfl rfl h611 (by omega)) rfl) rfl<|.sv (.int .u32 ((y50).getD (a0+y49.toNat) (kInt .u32).z)) [] rfl (snd_loadK_sca (kInt .u32) _ _ 0 (a0+y49.toNat) 0 _ _ rfl sc58 rfl rfl rfl rfl (by first | omega | (simp only [List.length_set]; omega)) (by decide)) rfl<|.g 2 rfl<|.p0 rfl rfl fun x52 _=>.g 3 rfl<|.guard fun h63=>?_
   obtain ⟨h631,h632,h633⟩:=h63
   refine .sv (.rptr 0 (kInt .u32).sz (a0+y49.toNat) 0) [] rfl (idx_r (snd_index_r _ _ _ _ _ 0 a0 a1 _ y49 rfl underlying22 si58 rfl rfl rfl rfl h631 (by omega)) rfl) rfl<|.sm [(0,(rwK (kInt .u32) 58 ((y50).set (a0+y49.toNat) x52.1)))] rfl (snd_storeK_sca (kInt .u32) _ _ _ 0 (a0+y49.toNat) _ _ x52.1 _ rfl rfl rfl sc58 rfl rfl rfl rfl rfl rfl (by first | omega | (simp only [List.length_set]; omega))) rfl<|.g 8 rfl<|.ag (x52.2,(IntKind.i64.wrap (y49+1)),((y50).set (a0+y49.toNat) x52.1)) [(0,0)] rfl
  ·refine .g 4 rfl<|.jw (h33 (y48,y50)) [(0,0)] rfl
instance quo_long_i (a0:List Int) (a1:List Int):PC (quo_long a0 a1) Tryz.prog 115 [(slK (kInt .u32) a0),(slK (kInt .u32) a1)] (fun r=>(.tup [(slK (kInt .u32) r.1),(slK (kInt .u32) r.2.1),(.bool r.2.2)])):=pc func115 (by kernel_rfl) rfl fun E=>by
 unfold quo_long
 refine .g 2 rfl<|.st rfl (as0 rfl) rfl<|.st rfl (as0 rfl) rfl<|.g 7 rfl<|.ln rfl rfl<|.g 1 rfl<|.ix rfl rfl<|.g 1 rfl<|.p0 rfl rfl fun x272 _=>.g 7 rfl<|.p0 rfl rfl fun x273 _=>.g 9 rfl<|.ln rfl rfl<|.g 6 rfl<|?_
 refine .ln rfl rfl<|.g 1 rfl<|.guard fun h4=>.sv (.row 0 (kInt .u32).sz 0 (((List.replicate ((IntKind.i64.wrap ((a0.length:Int)+1)).toNat) (kInt .u32).z)).length)) [(0,(rwK (kInt .u32) 58 (List.replicate ((IntKind.i64.wrap ((a0.length:Int)+1)).toNat) (kInt .u32).z)))] rfl (snd_makeK (kInt .u32) _ _ _ _ _ 0 _ _ _ rfl underlying22 ze58 sb58 (by decide) rfl rfl rfl rfl rfl h4) rfl<|.g 7 rfl<|.p0 rfl rfl fun x274 _=>.g 11 rfl<|.sv (.int .i64 ((copyN (List.replicate ((IntKind.i64.wrap ((a0.length:Int)+1)).toNat) (kInt .u32).z) x274.1:Nat):Int)) [(0,(rwK (kInt .u32) 58 (copyL (List.replicate ((IntKind.i64.wrap ((a0.length:Int)+1)).toNat) (kInt .u32).z) x274.1)))] rfl (snd_copyL (kInt .u32) _ _ _ _ _ 0 (List.replicate ((IntKind.i64.wrap ((a0.length:Int)+1)).toNat) (kInt .u32).z) x274.1 rfl underlying22 si58 rfl rfl rfl rfl rfl) rfl<|?_
 refine .weak ?_ (fun a w h=>Conc.relen h 9 (((copyL (List.replicate ((IntKind.i64.wrap ((a0.length:Int)+1)).toNat) (kInt .u32).z) x274.1)).length) rfl (length_copyL _ _).symm)
 refine .g 5 rfl<|.ln rfl rfl<|.g 3 rfl<|.guard fun h6=>.sv (.row 1 (kInt .u32).sz 0 (((List.replicate ((IntKind.i64.wrap ((IntKind.i64.wrap ((a0.length:Int)-(x273.1.length:Int)))+1)).toNat) (kInt .u32).z)).length)) [(1,(rwK (kInt .u32) 58 (List.replicate ((IntKind.i64.wrap ((IntKind.i64.wrap ((a0.length:Int)-(x273.1.length:Int)))+1)).toNat) (kInt .u32).z)))] rfl (snd_makeK (kInt .u32) _ _ _ _ _ 1 _ _ _ rfl underlying22 ze58 sb58 (by decide) rfl rfl rfl rfl rfl h6) rfl<|.g 7 rfl<|.ln rfl rfl<|.g 5 rfl<|?_
 refine .cut (fun x:(List Int) × (List Int)=>(quo_long_j1 x273 x272 x.1 x.2,[(4,some (.row 1 (kInt .u32).sz 0 ((x.1).length))),eI 7 x272,eI 8 (x273.1.length:Int),(9,some (.row 0 (kInt .u32).sz 0 ((x.2).length)))],[(1,(rwK (kInt .u32) 58 x.1)),(0,(rwK (kInt .u32) 58 x.2))])) ?_ ?_
 ·rintro ⟨y407,y408⟩
  dsimp only [quo_long_j1]
  refine .g 2 rfl<|?_
  refine .weak ?_ (fun a w h=>Conc.freezeK (kInt .u32) h 4 1 0 ((y407).length) 58 y407 rfl rfl (by omega))
  refine .weak ?_ (fun a w h=>take_all h)
  refine .weak ?_ (fun a w h=>Conc.freezeK (kInt .u32) h 9 0 0 ((y408).length) 58 y408 rfl rfl (by omega))
  refine .weak ?_ (fun a w h=>take_all h)
  refine .g 2 rfl<|.p0 rfl rfl fun x409 _=>.g 2 rfl<|.guard fun h638=>.sv (slK (kInt .u32) (y408.take x273.1.length)) [] rfl (snd_sliceK (kInt .u32) _ _ _ _ _ _ 0 (x273.1.length:Int) rfl underlying22 si58 rfl rfl rfl rfl rfl h638) rfl<|.g 1 rfl<|.p0 rfl rfl fun x410 _=>.g 3 rfl<|.dn (by kernel_rfl)<|.g 2 rfl<|.fi rfl rfl
 ·intro h640
  refine .g 1 rfl<|?_
  refine .lp (fun n (x:Int × (List Int) × (List Int))=>quo_long_l2 x273 x272 n x.1 x.2.1 x.2.2) (fun x=>([eL 1 x273.1,(4,some (.row 1 (kInt .u32).sz 0 ((x.2.1).length))),eI 7 x272,eI 8 (x273.1.length:Int),(9,some (.row 0 (kInt .u32).sz 0 ((x.2.2).length))),eI 12 x.1],[(1,(rwK (kInt .u32) 58 x.2.1)),(0,(rwK (kInt .u32) 58 x.2.2))])) ((IntKind.i64.wrap ((a0.length:Int)-(x273.1.length:Int))),(List.replicate ((IntKind.i64.wrap ((IntKind.i64.wrap ((a0.length:Int)-(x273.1.length:Int)))+1)).toNat) (kInt .u32).z),(copyL (List.replicate ((IntKind.i64.wrap ((a0.length:Int)+1)).toNat) (kInt .u32).z) x274.1)) [(1,1),(0,0)] rfl ?_
  rintro n2 ⟨y498,y499,y500⟩
  try dsimp only
  rw [quo_long_l2]
  refine .g 7 rfl<|?_
  refine .cd rfl (fun _ _=>?_) fun _ _=>?_
  ·refine .g 3 rfl<|?_
   refine .cut (fun x:(List Int) × (List Int)=>(quo_long_j3 (fun z0 z1 z2=>quo_long_l2 x273 x272 n2 z0 z1 z2) y498 x.1 x.2,[eL 1 x273.1,(4,some (.row 1 (kInt .u32).sz 0 ((x.1).length))),eI 7 x272,eI 8 (x273.1.length:Int),(9,some (.row 0 (kInt .u32).sz 0 ((x.2).length))),eI 12 y498],[(1,(rwK (kInt .u32) 58 x.1)),(0,(rwK (kInt .u32) 58 x.2))])) ?_ ?_
   ·rintro ⟨y521,y522⟩
    dsimp only [quo_long_j3]
    refine .g 6 rfl<|.ag ((IntKind.i64.wrap (y498-1)),y521,y522) [(1,1),(0,0)] rfl
   ·intro h1167
    refine .g 8 rfl<|.guard fun h1168=>?_
    obtain ⟨h11681,h11682⟩:=h1168
    refine .sv (.rptr 0 (kInt .u32).sz ((IntKind.i64.wrap (y498+(x273.1.length:Int))).toNat) 0) [] rfl (idx_r (snd_index_r _ _ _ _ _ 0 0 ((y500).length) _ (IntKind.i64.wrap (y498+(x273.1.length:Int))) rfl underlying22 si58 rfl rfl rfl rfl h11681 (by omega)) (Nat.zero_add _)) rfl<|.sv (.int .u32 ((y500).getD ((IntKind.i64.wrap (y498+(x273.1.length:Int))).toNat) (kInt .u32).z)) [] rfl (snd_loadK_sca (kInt .u32) _ _ 0 ((IntKind.i64.wrap (y498+(x273.1.length:Int))).toNat) 0 _ _ rfl sc58 rfl rfl rfl rfl (by first | omega | (simp only [List.length_set]; omega)) (by decide)) rfl<|.g 7 rfl<|.guard fun h1169=>?_
    obtain ⟨h11691,h11692⟩:=h1169
    refine .sv (.rptr 0 (kInt .u32).sz ((IntKind.i64.wrap ((IntKind.i64.wrap (y498+(x273.1.length:Int)))-1)).toNat) 0) [] rfl (idx_r (snd_index_r _ _ _ _ _ 0 0 ((y500).length) _ (IntKind.i64.wrap ((IntKind.i64.wrap (y498+(x273.1.length:Int)))-1)) rfl underlying22 si58 rfl rfl rfl rfl h11691 (by omega)) (Nat.zero_add _)) rfl<|.sv (.int .u32 ((y500).getD ((IntKind.i64.wrap ((IntKind.i64.wrap (y498+(x273.1.length:Int)))-1)).toNat) (kInt .u32).z)) [] rfl (snd_loadK_sca (kInt .u32) _ _ 0 ((IntKind.i64.wrap ((IntKind.i64.wrap (y498+(x273.1.length:Int)))-1)).toNat) 0 _ _ rfl sc58 rfl rfl rfl rfl (by first | omega | (simp only [List.length_set]; omega)) (by decide)) rfl<|.g 3 rfl<|.dn (by kernel_rfl)<|.g 7 rfl<|.ix rfl rfl<|.g 2 rfl<|.guard fun h1171=>.st rfl (snd_quo _ _ _ _ _ _ _ rfl rfl rfl rfl rfl h1171) rfl<|.g 4 rfl<|.ix rfl rfl<|.g 2 rfl<|.guard fun h1173=>.st rfl (snd_rem _ _ _ _ _ _ _ rfl rfl rfl rfl rfl h1173) rfl<|?_
    refine .g 2 rfl<|.dn (by kernel_rfl)<|.g 5 rfl<|?_
    refine .cut (fun x:Int=>(quo_long_j4 y498 x273 y500 y499 (fun z0 z1 z2=>quo_long_l2 x273 x272 n2 z0 z1 z2) x,[eL 1 x273.1,(4,some (.row 1 (kInt .u32).sz 0 ((y499).length))),eI 7 x272,eI 8 (x273.1.length:Int),(9,some (.row 0 (kInt .u32).sz 0 ((y500).length))),eI 12 y498,eX 14 x],[(1,(rwK (kInt .u32) 58 y499)),(0,(rwK (kInt .u32) 58 y500))])) ?_ ?_
    ·rintro y530
     dsimp only [quo_long_j4]
     refine .g 10 rfl<|.guard fun h1216=>.sv (.row 0 (kInt .u32).sz (0+y498.toNat) ((IntKind.i64.wrap ((IntKind.i64.wrap (y498+(x273.1.length:Int)))+1)).toNat-y498.toNat)) [] rfl (snd_slice_r _ _ _ _ _ _ 0 0 ((y500).length) y498 (IntKind.i64.wrap ((IntKind.i64.wrap (y498+(x273.1.length:Int)))+1)) rfl underlying22 si58 rfl rfl rfl rfl rfl h1216.1 h1216.2.1 h1216.2.2) rfl<|.g 2 rfl<|.bind fun x531 h1217=>.st rfl (cl (CC.h h1217) [0] [] [true] rfl (.cons (.row _ _ _ _ _ rfl)<|.l<|.i<|.nil) (.cons trivial (renV_rw _ _) .nil) fnil (.cons (renV_rw _ _) .nil) (.bool _) (.turned .nil) rfl) rfl<|.guard fun h1218=>?_
     refine .weak ?_ (fun a w h=>Conc.relen h 9 ((x531.2).length) rfl h1218.symm)
     refine .g 2 rfl<|?_
     refine .cut (fun x:Int × (List Int)=>(quo_long_j5 y498 y499 (fun z0 z1 z2=>quo_long_l2 x273 x272 n2 z0 z1 z2) x.1 x.2,[eL 1 x273.1,(4,some (.row 1 (kInt .u32).sz 0 ((y499).length))),eI 7 x272,eI 8 (x273.1.length:Int),(9,some (.row 0 (kInt .u32).sz 0 ((x.2).length))),eI 12 y498,eX 14 x.1],[(1,(rwK (kInt .u32) 58 y499)),(0,(rwK (kInt .u32) 58 x.2))])) ?_ ?_
     ·rintro ⟨y533,y534⟩
      dsimp only [quo_long_j5]
      refine .g 6 rfl<|.guard fun h1224=>?_
      obtain ⟨h12241,h12242⟩:=h1224
      refine .sv (.rptr 1 (kInt .u32).sz y498.toNat 0) [] rfl (idx_r (snd_index_r _ _ _ _ _ 1 0 ((y499).length) _ y498 rfl underlying22 si58 rfl rfl rfl rfl h12241 (by omega)) (Nat.zero_add _)) rfl<|.sm [(1,(rwK (kInt .u32) 58 ((y499).set y498.toNat (IntKind.u32.wrap y533))))] rfl (snd_storeK_sca (kInt .u32) _ _ _ 1 y498.toNat _ _ (IntKind.u32.wrap y533) _ rfl rfl rfl sc58 rfl rfl rfl rfl rfl rfl (by first | omega | (simp only [List.length_set]; omega))) rfl<|?_
      refine .weak ?_ (fun a w h=>Conc.relen h 4 ((((y499).set y498.toNat (IntKind.u32.wrap y533))).length) rfl List.length_set.symm)
      refine .g 3 rfl<|.jw (h1167 (((y499).set y498.toNat (IntKind.u32.wrap y533)),y534)) [(1,1),(0,0)] rfl
     ·intro h1225
      refine .cd rfl (fun _ _=>?_) fun _ _=>?_
      ·refine .g 14 rfl<|.guard fun h1228=>.sv (.row 0 (kInt .u32).sz (0+y498.toNat) ((IntKind.i64.wrap ((IntKind.i64.wrap (y498+(x273.1.length:Int)))+1)).toNat-y498.toNat)) [] rfl (snd_slice_r _ _ _ _ _ _ 0 0 ((x531.2).length) y498 (IntKind.i64.wrap ((IntKind.i64.wrap (y498+(x273.1.length:Int)))+1)) rfl underlying22 si58 rfl rfl rfl rfl rfl h1228.1 h1228.2.1 h1228.2.2) rfl<|.g 1 rfl<|.bind fun x535 h1229=>.st rfl (cl (CC.h h1229) [0] [] [true] rfl (.cons (.row _ _ _ _ _ rfl)<|.l<|.nil) (.cons trivial (renV_rw _ _) .nil) fnil (.cons (renV_rw _ _) .nil) (ren_tupL .nil) (.turned .nil) rfl) rfl<|.guard fun h1230=>?_
       refine .weak ?_ (fun a w h=>Conc.relen h 9 ((x535).length) rfl h1230.symm)
       refine .g 1 rfl<|.jw (h1225 ((IntKind.u64.wrap (y530-1)),x535)) [(1,1),(0,0)] rfl
      ·refine .g 1 rfl<|.jw (h1225 (y530,x531.2)) [(1,1),(0,0)] rfl
    ·intro h1231
     refine .g 1 rfl<|?_
     refine .lp (fun n (x:Int × Int)=>quo_long_l6 x273 y498 y500 y499 (fun z0 z1 z2=>quo_long_l2 x273 x272 n2 z0 z1 z2) n x.1 x.2) (fun x=>([eL 1 x273.1,(4,some (.row 1 (kInt .u32).sz 0 ((y499).length))),eI 7 x272,eI 8 (x273.1.length:Int),(9,some (.row 0 (kInt .u32).sz 0 ((y500).length))),eI 12 y498,eX 14 x.1,eX 15 x.2],[(1,(rwK (kInt .u32) 58 y499)),(0,(rwK (kInt .u32) 58 y500))])) ((IntKind.u64.wrap ((orI .u64 (shlI .u64 (IntKind.u64.wrap ((y500).getD ((IntKind.i64.wrap (y498+(x273.1.length:Int))).toNat) (kInt .u32).z)) 32) (IntKind.u64.wrap ((y500).getD ((IntKind.i64.wrap ((IntKind.i64.wrap (y498+(x273.1.length:Int)))-1)).toNat) (kInt .u32).z))).tdiv (IntKind.u64.wrap (x273.1.getD ((IntKind.i64.wrap ((x273.1.length:Int)-1)).toNat) (kInt .u32).z)))),((orI .u64 (shlI .u64 (IntKind.u64.wrap ((y500).getD ((IntKind.i64.wrap (y498+(x273.1.length:Int))).toNat) (kInt .u32).z)) 32) (IntKind.u64.wrap ((y500).getD ((IntKind.i64.wrap ((IntKind.i64.wrap (y498+(x273.1.length:Int)))-1)).toNat) (kInt .u32).z))).tmod (IntKind.u64.wrap (x273.1.getD ((IntKind.i64.wrap ((x273.1.length:Int)-1)).toNat) (kInt .u32).z)))) [(1,1),(0,0)] rfl ?_
     rintro n6 ⟨y540,y541⟩
     try dsimp only
     rw [quo_long_l6]
     refine .g 2 rfl<|?_
     refine .cut (fun x:Bool=>(quo_long_j7 x273 y541 y498 y500 y499 (fun z0 z1 z2=>quo_long_l2 x273 x272 n2 z0 z1 z2) y540 (fun z0 z1=>quo_long_l6 x273 y498 y500 y499 (fun z0 z1 z2=>quo_long_l2 x273 x272 n2 z0 z1 z2) n6 z0 z1) x,[eL 1 x273.1,(4,some (.row 1 (kInt .u32).sz 0 ((y499).length))),eI 7 x272,eI 8 (x273.1.length:Int),(9,some (.row 0 (kInt .u32).sz 0 ((y500).length))),eI 12 y498,eX 14 y540,eX 15 y541,eB 114 x],[(1,(rwK (kInt .u32) 58 y499)),(0,(rwK (kInt .u32) 58 y500))])) ?_ ?_
     ·rintro y542
      dsimp only [quo_long_j7]
      refine .g 1 rfl<|?_
      refine .cd rfl (fun _ _=>?_) fun _ _=>?_
      ·refine .g 16 rfl<|.ix rfl rfl<|.g 12 rfl<|?_
       refine .cd rfl (fun _ _=>?_) fun _ _=>?_
       ·refine .g 4 rfl<|.jw (h1231 (IntKind.u64.wrap (y540-1))) [(1,1),(0,0)] rfl
       ·refine .g 2 rfl<|.ag ((IntKind.u64.wrap (y540-1)),(IntKind.u64.wrap (y541+(IntKind.u64.wrap (x273.1.getD ((IntKind.i64.wrap ((x273.1.length:Int)-1)).toNat) (kInt .u32).z))))) [(1,1),(0,0)] rfl
      ·refine .g 4 rfl<|.jw (h1231 y540) [(1,1),(0,0)] rfl
     ·intro h1271
      refine .g 4 rfl<|?_
      refine .gd 93 rfl (fun _=>?_) fun _=>?_
      ·refine .g 21 rfl<|.dn (by kernel_rfl)<|.jw (h1271 true) [(1,1),(0,0)] rfl
      ·refine .g 4 rfl<|.ix rfl rfl<|.g 10 rfl<|.guard fun h1274=>?_
       obtain ⟨h12741,h12742⟩:=h1274
       refine .sv (.rptr 0 (kInt .u32).sz ((IntKind.i64.wrap ((IntKind.i64.wrap (y498+(x273.1.length:Int)))-2)).toNat) 0) [] rfl (idx_r (snd_index_r _ _ _ _ _ 0 0 ((y500).length) _ (IntKind.i64.wrap ((IntKind.i64.wrap (y498+(x273.1.length:Int)))-2)) rfl underlying22 si58 rfl rfl rfl rfl h12741 (by omega)) (Nat.zero_add _)) rfl<|.sv (.int .u32 ((y500).getD ((IntKind.i64.wrap ((IntKind.i64.wrap (y498+(x273.1.length:Int)))-2)).toNat) (kInt .u32).z)) [] rfl (snd_loadK_sca (kInt .u32) _ _ 0 ((IntKind.i64.wrap ((IntKind.i64.wrap (y498+(x273.1.length:Int)))-2)).toNat) 0 _ _ rfl sc58 rfl rfl rfl rfl (by first | omega | (simp only [List.length_set]; omega)) (by decide)) rfl<|.g 4 rfl<|.dn (by kernel_rfl)<|.jw (h1271 (decide ((IntKind.u64.wrap (y540*(IntKind.u64.wrap (x273.1.getD ((IntKind.i64.wrap ((x273.1.length:Int)-2)).toNat) (kInt .u32).z))))>(orI .u64 (shlI .u64 y541 32) (IntKind.u64.wrap ((y500).getD ((IntKind.i64.wrap ((IntKind.i64.wrap (y498+(x273.1.length:Int)))-2)).toNat) (kInt .u32).z)))))) [(1,1),(0,0)] rfl
  ·refine .g 4 rfl<|.jw (h640 (y499,y500)) [(1,1),(0,0)] rfl
instance quo_DivMod_i (a0:List Int) (a1:List Int):PC (quo_DivMod a0 a1) Tryz.prog 103 [(slK (kInt .u32) a0),(slK (kInt .u32) a1)] (fun r=>(.tup [(slK (kInt .u32) r.1),(slK (kInt .u32) r.2.1),(.bool r.2.2)])):=pc func103 (by kernel_rfl) rfl fun E=>by
 unfold quo_DivMod
 refine .g 2 rfl<|.st rfl (as0 rfl) rfl<|.st rfl (as0 rfl) rfl<|.g 6 rfl<|.p0 rfl rfl fun x8 _=>.g 6 rfl<|.p0 rfl rfl fun x9 _=>.g 8 rfl<|.ln rfl rfl<|.g 4 rfl<|?_
 refine .cd rfl (fun _ _=>?_) fun _ _=>?_
 ·refine .g 2 rfl<|.st rfl (as0 rfl) rfl<|.st rfl (as0 rfl) rfl<|.g 6 rfl<|.fi rfl rfl
 ·refine .g 4 rfl<|.p0 rfl rfl fun x12 _=>.g 4 rfl<|?_
  refine .cd rfl (fun _ _=>?_) fun _ _=>?_
  ·refine .g 3 rfl<|.st rfl (as0 rfl) rfl<|.g 7 rfl<|.fi rfl rfl
  ·refine .g 3 rfl<|.ln rfl rfl<|.g 4 rfl<|?_
   refine .cd rfl (fun _ _=>?_) fun _ _=>?_
   ·refine .g 4 rfl<|.ix rfl rfl<|.g 1 rfl<|.p0 rfl rfl fun x13 _=>.g 11 rfl<|.fi rfl rfl
   ·refine .g 7 rfl<|.p0 rfl rfl fun x14 _=>.g 9 rfl<|.fi rfl rfl
instance dyad_Div_i (a0:AD) (a1:AD) (a2:Int) (a3:Bool):PC (dyad_Div a0 a1 a2 a3) Tryz.prog 74 [(.agg (kApiDy.enc a0)),(.agg (kApiDy.enc a1)),(.int .i64 a2),(.bool a3)] (fun r=>(.tup [(.agg (kApiDy.enc (⟨((r.1).M),(r.1).E⟩:AD))),(.int .i64 r.2)])):=pc func74 (by kernel_rfl) rfl fun E=>by
 unfold dyad_Div
 refine .g 17 rfl<|?_
 refine .cut (fun x:Bool × Int=>(dyad_Div_j1 a1 a0 a2 a3 x.1 x.2,[eI 2 a2,eB 3 a3,eP 4 0,eP 5 1,eP 8 2,eP 10 3,eB 41 x.1],[(0,(.live 26 [(.bool a0.M.Neg),(slK (kInt .u32) a0.M.Mag),(.int .i64 a0.E)])),(1,(.live 26 [(.bool a1.M.Neg),(slK (kInt .u32) a1.M.Mag),(.int .i64 a1.E)])),(2,(.live 26 [(.bool false),(slK (kInt .u32) []),(.int .i64 0)])),(3,(.live 78 [(.int .i64 x.2),(.bool false),(slK (kInt .u32) []),(.int .i64 0)]))])) ?_ ?_
 ·rintro ⟨y32,y33⟩
  dsimp only [dyad_Div_j1]
  refine .g 1 rfl<|?_
  refine .cut (fun x:Bool × (List Int) × Int=>(dyad_Div_j2 y33 x.1 x.2.1 x.2.2,[eP 8 2,eP 10 3],[(2,(.live 26 [(.bool false),(slK (kInt .u32) []),(.int .i64 0)])),(3,(.live 78 [(.int .i64 y33),(.bool x.1),(slK (kInt .u32) x.2.1),(.int .i64 x.2.2)]))])) ?_ ?_
  ·rintro ⟨y39,y40,y41⟩
   dsimp only [dyad_Div_j2]
   refine .g 4 rfl<|.bind fun x42 h16=>.st rfl (cl (CC.h h16) [3] [] [true] rfl (.p rfl<|.nil) (.p rfl (.i<|.b<|.l<|.i<|.nil) .nil) fnil (.cons (.v (.i<|.b<|.l<|.i<|.nil)) .nil) (ren_tupL (.a kApiDy<|.i<|.nil)) (.turned .nil) rfl) rfl<|.g 7 rfl<|.fi rfl rfl
  ·intro h17
   refine .cd rfl (fun _ _=>?_) fun _ _=>?_
   ·refine .g 7 rfl<|.p0 rfl rfl fun x43 _=>.g 4 rfl<|.p0 rfl rfl fun x44 _=>.g 3 rfl<|.dn (by kernel_rfl)<|.g 19 rfl<|.p0 rfl rfl fun x45 _=>.g 3 rfl<|.p0 rfl rfl fun x46 _=>.g 7 rfl<|.dn (by kernel_rfl)<|.g 13 rfl<|.ln rfl rfl<|?_
    refine .g 5 rfl<|.bind fun x47 h24=>.st rfl (cl (CC.h h24) [3] [] [true] rfl (.p rfl<|.b<|.l<|.i<|.b<|.i<|.b<|.nil) (.p rfl (.i<|.b<|.l<|.i<|.nil) .nil) fnil (.cons (.v (.i<|.b<|.l<|.i<|.nil)) .nil) (ren_tupL .nil) (.turned .nil) rfl) rfl<|.g 1 rfl<|.jw (h17 (x47.1,x47.2.1,x47.2.2)) [(2,2),(3,3)] rfl
   ·refine .g 1 rfl<|.jw (h17 (false,[],0)) [(2,2),(3,3)] rfl
 ·intro h25
  refine .g 4 rfl<|.st rfl (bs kApiDy [a0,a1] rfl rfl) rfl<|.bind fun x48 h26=>.st rfl (cl (CC.h h26) [3] [] [true] rfl (.p rfl<|.l<|.nil) (.p rfl (.i<|.b<|.l<|.i<|.nil) .nil) fnil (.cons (.v (.i<|.b<|.l<|.i<|.nil)) .nil) (.bool _) (.turned .nil) rfl) rfl<|.g 1 rfl<|?_
  refine .gd 23 rfl (fun _=>?_) fun _=>?_
  ·refine .g 2 rfl<|.bind fun x49 h28=>.st rfl (cl (CC.h h28) [3] [] [true] rfl (.p rfl<|.i<|.nil) (.p rfl (.i<|.b<|.l<|.i<|.nil) .nil) fnil (.cons (.v (.i<|.b<|.l<|.i<|.nil)) .nil) (.bool _) (.turned .nil) rfl) rfl<|.g 2 rfl<|?_
   refine .gd 28 rfl (fun _=>?_) fun _=>?_
   ·refine .g 4 rfl<|.p0 rfl rfl fun x50 _=>.g 1 rfl<|.bind fun x51 h31=>.st rfl (cl (CC.h h31) [3] [] [true] rfl (.p rfl<|.b<|.i<|.nil) (.p rfl (.i<|.b<|.l<|.i<|.nil) .nil) fnil (.cons (.v (.i<|.b<|.l<|.i<|.nil)) .nil) (.bool _) (.turned .nil) rfl) rfl<|.g 2 rfl<|?_
    refine .gd 37 rfl (fun _=>?_) fun _=>?_
    ·refine .g 1 rfl<|.p0 rfl rfl fun x52 _=>.g 2 rfl<|.dn (by kernel_rfl)<|.jw (h25 ((!x52),x51.2)) [(0,0),(1,1),(2,2),(3,3)] rfl
    ·refine .g 4 rfl<|.dn (by kernel_rfl)<|.jw (h25 (false,x51.2)) [(0,0),(1,1),(2,2),(3,3)] rfl
   ·refine .g 13 rfl<|.dn (by kernel_rfl)<|.jw (h25 (false,x49.2)) [(0,0),(1,1),(2,2),(3,3)] rfl
  ·refine .g 18 rfl<|.dn (by kernel_rfl)<|.jw (h25 (false,x48.2)) [(0,0),(1,1),(2,2),(3,3)] rfl
instance cv_Div_1_1_i (a0:AD) (a1:AD) (a2:Int) (a3:Int) (a4:Bool):CC (cv_Div_1_1 a0 a1 a2 a3 a4) Tryz.prog 73 [(.agg (kApiDy.enc a0)),(.agg (kApiDy.enc a1)),(.ptr 0 0),(.ptr 2 0)] [(.live 29 [(.ptr 1 0)]),(.live 45 [(.int .i64 a2),(.int .i64 a3)]),(.live 4 [(.bool a4)])] (fun r=>(.tup [(.agg (kApiDy.enc (⟨((r.1).M),(r.1).E⟩:AD))),(.int .i64 r.2)])) (fun r=>[(.live 29 [(.ptr 1 0)]),(.live 45 [(.int .i64 a2),(.int .i64 a3)]),(.live 4 [(.bool a4)])]):=cc func73 (by kernel_rfl) rfl fun E=>by
 unfold cv_Div_1_1
 refine .g 17 rfl<|.p0 rfl rfl fun x2 _=>.g 4 rfl<|.dn (by kernel_rfl)<|.g 2 rfl<|.fi rfl rfl
instance cv_four_e8e7_i (a0:AI) (a1:AI) (a2:Int) (a3:Int) (a4:Bool):CC (cv_four_e8e7 a0 a1 a2 a3 a4) Tryz.prog 40 [(.ptr 0 0),(.agg (kI.enc a0)),(.agg (kI.enc a1)),(.fn 73 [] [(.ptr 1 0),(.ptr 2 0)])] [(.live 45 [(.int .i64 a2),(.int .i64 a3)]),(.live 29 [(.ptr 0 0)]),(.live 4 [(.bool a4)])] (fun r=>(slK kApiDy r.1)) (fun r=>[(.live 45 [(.int .i64 r.2),(.int .i64 a3)]),(.live 29 [(.ptr 0 0)]),(.live 4 [(.bool a4)])]):=cc func40 (by kernel_rfl) rfl fun E=>by
 unfold cv_four_e8e7
 refine .g 13 rfl<|.st rfl (bs kApiDy [a0.Lo,a0.Hi] rfl rfl) rfl<|.g 4 rfl<|.st rfl (bs kApiDy [a1.Lo,a1.Hi] rfl rfl) rfl<|.g 2 rfl<|.dn (by kernel_rfl)<|.g 8 rfl<|.p0 rfl rfl fun x487 _=>.g 3 rfl<|?_
 refine .cut (fun x:(List AD)=>(cv_four_e8e7_j1 a1 a3 a4 a2 x,[eP 0 0,(3,some (.fn 73 [] [(.ptr 1 0),(.ptr 2 0)])),eP 6 4,eK kApiDy 9 x,eK kApiDy 10 [a1.Lo,a1.Hi]],[(0,(.live 45 [(.int .i64 a2),(.int .i64 a3)])),(1,(.live 29 [(.ptr 0 0)])),(2,(.live 4 [(.bool a4)])),(4,(.live 35 [(.bool a1.Lo.M.Neg),(slK (kInt .u32) a1.Lo.M.Mag),(.int .i64 a1.Lo.E),(.bool a1.Hi.M.Neg),(slK (kInt .u32) a1.Hi.M.Mag),(.int .i64 a1.Hi.E)]))])) ?_ ?_
 ·rintro y488
  dsimp only [cv_four_e8e7_j1]
  refine .g 8 rfl<|.p0 rfl rfl fun x489 _=>.g 3 rfl<|?_
  refine .cut (fun x:(List AD)=>(cv_four_e8e7_j2 y488 a3 a4 a2 x,[eP 0 0,(3,some (.fn 73 [] [(.ptr 1 0),(.ptr 2 0)])),eK kApiDy 9 y488,eK kApiDy 10 x],[(0,(.live 45 [(.int .i64 a2),(.int .i64 a3)])),(1,(.live 29 [(.ptr 0 0)])),(2,(.live 4 [(.bool a4)]))])) ?_ ?_
  ·rintro y490
   dsimp only [cv_four_e8e7_j2]
   refine .g 10 rfl<|.ln rfl rfl<|.g 3 rfl<|?_
   refine .cut (fun x:Int × (List AD)=>(cv_four_e8e7_j3 x.1 x.2,[(11,some (grA kApiDy 3 x.2))],[(0,(.live 45 [(.int .i64 x.1),(.int .i64 a3)])),(1,(.live 29 [(.ptr 0 0)])),(2,(.live 4 [(.bool a4)])),(3,(grV kApiDy 26 x.2))])) ?_ ?_
   ·rintro ⟨y731,y732⟩
    dsimp only [cv_four_e8e7_j3]
    refine .g 8 rfl<|?_
    refine .weak ?_ (fun a w h=>Conc.gr_still kApiDy h 8 3 26 y732 rfl rfl)
    exact .fi rfl rfl
   ·intro h381
    refine .g 1 rfl<|?_
    refine .weak ?_ (fun a w h=>Conc.gr_nil kApiDy h 11 3 26 rfl)
    refine .lo (fun n (x:Int × Int × (List AD))=>cv_four_e8e7_l4 y488 y490 a3 a4 n x.1 x.2.1 x.2.2) (fun x=>([eP 0 0,(3,some (.fn 73 [] [(.ptr 1 0),(.ptr 2 0)])),eK kApiDy 10 y490,(11,some (grA kApiDy 3 x.2.2)),eK kApiDy 42 y488,eI 43 (y488.length:Int),eI 44 x.1],[(0,(.live 45 [(.int .i64 x.2.1),(.int .i64 a3)])),(1,(.live 29 [(.ptr 0 0)])),(2,(.live 4 [(.bool a4)])),(3,(grV kApiDy 26 x.2.2))])) (0,a2,[]) rfl (fun hE=>jn (m:=3) [(0,0),(1,1),(2,2),(3,3)] hE (.p rfl rfl<|.g rfl (ren_fnL _ .nil (.p rfl<|.p rfl<|.nil))<|.l rfl<|.g rfl (ren_gr (K:=kApiDy) (by rfl) [])<|.l rfl<|.i rfl<|.i rfl<|.nil) (.v rfl (.i<|.i<|.nil)<|.v rfl (.p rfl<|.nil)<|.v rfl (.b<|.nil)<|.cons (.refl _) (renV_gr (K:=kApiDy) 26 [])<|.nil) rfl) ?_
    rintro n4 ⟨y892,y893,y894⟩
    try dsimp only
    rw [cv_four_e8e7_l4]
    refine .g 6 rfl<|?_
    refine .cd rfl (fun _ _=>?_) fun _ _=>?_
    ·refine .g 3 rfl<|?_
     refine .cut (fun x:Int × (List AD)=>(cv_four_e8e7_j5 (fun z0 z1 z2=>cv_four_e8e7_l4 y488 y490 a3 a4 n4 z0 z1 z2) y892 x.1 x.2,[eP 0 0,(3,some (.fn 73 [] [(.ptr 1 0),(.ptr 2 0)])),eK kApiDy 10 y490,(11,some (grA kApiDy 3 x.2)),eK kApiDy 42 y488,eI 43 (y488.length:Int),eI 44 y892],[(0,(.live 45 [(.int .i64 x.1),(.int .i64 a3)])),(1,(.live 29 [(.ptr 0 0)])),(2,(.live 4 [(.bool a4)])),(3,(grV kApiDy 26 x.2))])) ?_ ?_
     ·rintro ⟨y933,y934⟩
      dsimp only [cv_four_e8e7_j5]
      refine .g 5 rfl<|.ao ((IntKind.i64.wrap (y892+1)),y933,y934) rfl fun hE=>jn (m:=3) [(0,0),(1,1),(2,2),(3,3)] hE (.p rfl rfl<|.g rfl (ren_fnL _ .nil (.p rfl<|.p rfl<|.nil))<|.l rfl<|.g rfl (ren_gr (K:=kApiDy) (by rfl) y934)<|.l rfl<|.i rfl<|.i rfl<|.nil) (.v rfl (.i<|.i<|.nil)<|.v rfl (.p rfl<|.nil)<|.v rfl (.b<|.nil)<|.cons (.refl _) (renV_gr (K:=kApiDy) 26 y934)<|.nil) rfl
     ·intro h693
      refine .g 3 rfl<|.ix rfl rfl<|.g 8 rfl<|.ln rfl rfl<|.g 3 rfl<|?_
      refine .cut (fun x:Int × (List AD)=>(cv_four_e8e7_j6 (fun z0 z1 z2=>cv_four_e8e7_l4 y488 y490 a3 a4 n4 z0 z1 z2) y892 x.1 x.2,[eP 0 0,(3,some (.fn 73 [] [(.ptr 1 0),(.ptr 2 0)])),eK kApiDy 10 y490,(11,some (grA kApiDy 3 x.2)),eK kApiDy 42 y488,eI 43 (y488.length:Int),eI 44 y892],[(0,(.live 45 [(.int .i64 x.1),(.int .i64 a3)])),(1,(.live 29 [(.ptr 0 0)])),(2,(.live 4 [(.bool a4)])),(3,(grV kApiDy 26 x.2))])) ?_ ?_
      ·rintro ⟨y953,y954⟩
       dsimp only [cv_four_e8e7_j6]
       refine .g 1 rfl<|.jo (h693 (y953,y954)) rfl fun hE=>jn (m:=3) [(0,0),(1,1),(2,2),(3,3)] hE (.p rfl rfl<|.g rfl (ren_fnL _ .nil (.p rfl<|.p rfl<|.nil))<|.l rfl<|.g rfl (ren_gr (K:=kApiDy) (by rfl) y954)<|.l rfl<|.i rfl<|.i rfl<|.nil) (.v rfl (.i<|.i<|.nil)<|.v rfl (.p rfl<|.nil)<|.v rfl (.b<|.nil)<|.cons (.refl _) (renV_gr (K:=kApiDy) 26 y954)<|.nil) rfl
      ·intro h725
       refine .g 1 rfl<|?_
       refine .lo (fun n (x:Int × Int × (List AD))=>cv_four_e8e7_l7 y490 y488 y892 a3 a4 (fun z0 z1 z2=>cv_four_e8e7_l4 y488 y490 a3 a4 n4 z0 z1 z2) n x.1 x.2.1 x.2.2) (fun x=>([eP 0 0,(3,some (.fn 73 [] [(.ptr 1 0),(.ptr 2 0)])),eK kApiDy 10 y490,(11,some (grA kApiDy 3 x.2.2)),eP 13 4,eK kApiDy 42 y488,eI 43 (y488.length:Int),eI 44 y892,eK kApiDy 48 y490,eI 49 (y490.length:Int),eI 50 x.1],[(0,(.live 45 [(.int .i64 x.2.1),(.int .i64 a3)])),(1,(.live 29 [(.ptr 0 0)])),(2,(.live 4 [(.bool a4)])),(3,(grV kApiDy 26 x.2.2)),(4,(.live 26 [(.bool (((y488.getD y892.toNat zAD).M).Neg)),(slK (kInt .u32) (((y488.getD y892.toNat zAD).M).Mag)),(.int .i64 ((y488.getD y892.toNat zAD).E))]))])) (0,y893,y894) rfl (fun hE=>jn (m:=3) [(0,0),(1,1),(2,2),(3,3),(4,4)] hE (.p rfl rfl<|.g rfl (ren_fnL _ .nil (.p rfl<|.p rfl<|.nil))<|.l rfl<|.g rfl (ren_gr (K:=kApiDy) (by rfl) y894)<|.p rfl rfl<|.l rfl<|.i rfl<|.i rfl<|.l rfl<|.i rfl<|.i rfl<|.nil) (.v rfl (.i<|.i<|.nil)<|.v rfl (.p rfl<|.nil)<|.v rfl (.b<|.nil)<|.cons (.refl _) (renV_gr (K:=kApiDy) 26 y894)<|.v rfl (.b<|.l<|.i<|.nil)<|.nil) rfl) ?_
       rintro n7 ⟨y966,y967,y968⟩
       try dsimp only
       rw [cv_four_e8e7_l7]
       refine .g 6 rfl<|?_
       refine .cd rfl (fun _ _=>?_) fun _ _=>?_
       ·refine .g 6 rfl<|.ix rfl rfl<|.g 11 rfl<|.bind fun x971 h753=>.st rfl (cl (CC.h h753) [1,0,2] [] [false,false,false] rfl (.a kApiDy<|.a kApiDy<|.p rfl<|.p rfl<|.nil) (.p rfl (.p rfl<|.nil) (.p rfl (.i<|.i<|.nil) (.p rfl (.b<|.nil) .nil))) fnil (.cons (.v (.p rfl<|.nil)) (.cons (.v (.i<|.i<|.nil)) (.cons (.v (.b<|.nil)) .nil))) (ren_tupL (.a kApiDy<|.i<|.nil)) (.kept rfl (.kept rfl (.kept rfl .nil))) rfl) rfl<|.g 2 rfl<|.bind fun x972 h754=>.st rfl (cl (CC.h h754) [0] [] [true] rfl (.p rfl<|.a kApiDy<|.i<|.nil) (.p rfl (.i<|.i<|.nil) .nil) fnil (.cons (.v (.i<|.i<|.nil)) .nil) (ren_agg (K:=kApiDy) _) (.turned .nil) rfl) rfl<|.st rfl (bs kApiDy [(⟨((x972.1).M),(x972.1).E⟩:AD)] rfl rfl) rfl<|.guard fun h755=>.sv (.row 6 kApiDy.sz 0 (((y968++[(⟨((x972.1).M),(x972.1).E⟩:AD)])).length)) [(6,(rwK kApiDy 26 (y968++[(⟨((x972.1).M),(x972.1).E⟩:AD)]))),(3,.dead)] rfl (snd_appendK_gr kApiDy _ _ _ _ _ 3 6 y968 [(⟨((x972.1).M),(x972.1).E⟩:AD)] rfl underlying68 ze26 sb26 rfl rfl rfl rfl rfl rfl rfl h755) rfl<|.g 8 rfl<|?_
        refine .weak ?_ (fun a w h=>Conc.gr_row kApiDy h 11 6 26 (y968++[(⟨((x972.1).M),(x972.1).E⟩:AD)]) rfl rfl (by first | omega | (simp only [List.length_append,List.length_cons,List.length_set]; omega) | simp))
        exact .ao ((IntKind.i64.wrap (y966+1)),x972.2,(y968++[(⟨((x972.1).M),(x972.1).E⟩:AD)])) rfl fun hE=>jn (m:=3) [(0,0),(1,1),(2,2),(6,3),(4,4)] hE (.p rfl rfl<|.g rfl (ren_fnL _ .nil (.p rfl<|.p rfl<|.nil))<|.l rfl<|.g rfl (ren_gr (K:=kApiDy) (by rfl) (y968++[(⟨((x972.1).M),(x972.1).E⟩:AD)]))<|.p rfl rfl<|.l rfl<|.i rfl<|.i rfl<|.l rfl<|.i rfl<|.i rfl<|.nil) (.v rfl (.i<|.i<|.nil)<|.v rfl (.p rfl<|.nil)<|.v rfl (.b<|.nil)<|.cons (.refl _) (renV_gr (K:=kApiDy) 26 (y968++[(⟨((x972.1).M),(x972.1).E⟩:AD)]))<|.v rfl (.b<|.l<|.i<|.nil)<|.nil) rfl
       ·refine .g 4 rfl<|.jo (h725 (y967,y968)) rfl fun hE=>jn (m:=3) [(0,0),(1,1),(2,2),(3,3)] hE (.p rfl rfl<|.g rfl (ren_fnL _ .nil (.p rfl<|.p rfl<|.nil))<|.l rfl<|.g rfl (ren_gr (K:=kApiDy) (by rfl) y968)<|.l rfl<|.i rfl<|.i rfl<|.nil) (.v rfl (.i<|.i<|.nil)<|.v rfl (.p rfl<|.nil)<|.v rfl (.b<|.nil)<|.cons (.refl _) (renV_gr (K:=kApiDy) 26 y968)<|.nil) rfl
    ·refine .g 4 rfl<|.jo (h381 (y893,y894)) rfl fun hE=>jn (m:=3) [(0,0),(1,1),(2,2),(3,3)] hE (.g rfl (ren_gr (K:=kApiDy) (by rfl) y894)<|.nil) (.v rfl (.i<|.i<|.nil)<|.v rfl (.p rfl<|.nil)<|.v rfl (.b<|.nil)<|.cons (.refl _) (renV_gr (K:=kApiDy) 26 y894)<|.nil) rfl
  ·intro h756
   refine .cd rfl (fun _ _=>?_) fun _ _=>?_
   ·refine .g 2 rfl<|.guard fun h759=>.sv (slK kApiDy ([a1.Lo,a1.Hi].take 1)) [] rfl (snd_sliceK kApiDy _ _ _ _ _ _ 0 1 rfl underlying68 si26 rfl rfl rfl rfl rfl h759) rfl<|.g 2 rfl<|.jw (h756 ([a1.Lo,a1.Hi].take 1)) [(0,0),(1,1),(2,2)] rfl
   ·refine .g 1 rfl<|.jw (h756 [a1.Lo,a1.Hi]) [(0,0),(1,1),(2,2)] rfl
 ·intro h760
  refine .cd rfl (fun _ _=>?_) fun _ _=>?_
  ·refine .g 2 rfl<|.guard fun h763=>.sv (slK kApiDy ([a0.Lo,a0.Hi].take 1)) [] rfl (snd_sliceK kApiDy _ _ _ _ _ _ 0 1 rfl underlying68 si26 rfl rfl rfl rfl rfl h763) rfl<|.g 2 rfl<|.jw (h760 ([a0.Lo,a0.Hi].take 1)) [(0,0),(1,1),(2,2),(4,4)] rfl
  ·refine .g 1 rfl<|.jw (h760 [a0.Lo,a0.Hi]) [(0,0),(1,1),(2,2),(4,4)] rfl
instance cv_Div_i (a0:AI) (a1:AI) (a2:Int) (a3:Int):CC (cv_Div a0 a1 a2 a3) Tryz.prog 34 [(.ptr 0 0),(.agg (kI.enc a0)),(.agg (kI.enc a1))] [(.live 45 [(.int .i64 a2),(.int .i64 a3)])] (fun r=>(.agg (kI.enc (⟨⟨(((r.1).Lo).M),((r.1).Lo).E⟩,⟨(((r.1).Hi).M),((r.1).Hi).E⟩⟩:AI)))) (fun r=>[(.live 45 [(.int .i64 r.2),(.int .i64 a3)])]):=cc func34 (by kernel_rfl) rfl fun E=>by
 unfold cv_Div
 refine .g 14 rfl<|.st rfl (bs kI [a0,a1] rfl rfl) rfl<|.bind fun x11 h1=>.st rfl (cl (CC.h h1) [0] [] [true] rfl (.p rfl<|.l<|.nil) (.p rfl (.i<|.i<|.nil) .nil) fnil (.cons (.v (.i<|.i<|.nil)) .nil) (.bool _) (.turned .nil) rfl) rfl<|.g 3 rfl<|?_
 refine .cd rfl (fun _ _=>?_) fun _ _=>?_
 ·refine .g 8 rfl<|.fi rfl rfl
 ·refine .g 7 rfl<|.p0 rfl rfl fun x12 _=>.g 2 rfl<|?_
  refine .cd rfl (fun _ _=>?_) fun _ _=>?_
  ·refine .g 5 rfl<|.bind fun x13 h7=>.st rfl (cl (CC.h h7) [0] [] [true] rfl (.p rfl<|.i<|.nil) (.p rfl (.i<|.i<|.nil) .nil) fnil (.cons (.v (.i<|.i<|.nil)) .nil) (.bool _) (.turned .nil) rfl) rfl<|.g 10 rfl<|.fi rfl rfl
  ·refine .g 14 rfl<|.bind fun x14 h8=>.st rfl (cl (CC.h h8) [1,0] [5] [false,false,true] rfl (.b<|.p rfl<|.nil) (.p rfl (.p rfl<|.nil) (.p rfl (.i<|.i<|.nil) .nil)) (fresh_cons rfl fnil) (.cons (.v (.p rfl<|.nil)) (.cons (.v (.i<|.i<|.nil)) (.cons (.v (.b<|.nil)) .nil))) (ren_fnL _ .nil (.p rfl<|.p rfl<|.nil)) (.kept rfl (.kept rfl (.turned .nil))) rfl) rfl<|.bind fun x15 h9=>.st rfl (cl (CC.h h9) [0,1,5] [] [true,false,false] rfl (.p rfl<|.a kI<|.a kI<|.cons (ren_fnL _ .nil (.p rfl<|.p rfl<|.nil))<|.nil) (.p rfl (.i<|.i<|.nil) (.p rfl (.p rfl<|.nil) (.p rfl (.b<|.nil) .nil))) fnil (.cons (.v (.i<|.i<|.nil)) (.cons (.v (.p rfl<|.nil)) (.cons (.v (.b<|.nil)) .nil))) (ren_sl _) (.turned (.kept rfl (.kept rfl .nil))) rfl) rfl<|.p0 rfl rfl fun x16 _=>.g 7 rfl<|.dn (by kernel_rfl)<|.g 7 rfl<|.bind fun x17 h11=>.st rfl (cl (CC.h h11) [1,0] [8] [false,false,true] rfl (.b<|.p rfl<|.nil) (.p rfl (.p rfl<|.nil) (.p rfl (.i<|.i<|.nil) .nil)) (fresh_cons rfl fnil) (.cons (.v (.p rfl<|.nil)) (.cons (.v (.i<|.i<|.nil)) (.cons (.v (.b<|.nil)) .nil))) (ren_fnL _ .nil (.p rfl<|.p rfl<|.nil)) (.kept rfl (.kept rfl (.turned .nil))) rfl) rfl<|.bind fun x18 h12=>.st rfl (cl (CC.h h12) [0,1,8] [] [true,false,false] rfl (.p rfl<|.a kI<|.a kI<|.cons (ren_fnL _ .nil (.p rfl<|.p rfl<|.nil))<|.nil) (.p rfl (.i<|.i<|.nil) (.p rfl (.p rfl<|.nil) (.p rfl (.b<|.nil) .nil))) fnil (.cons (.v (.i<|.i<|.nil)) (.cons (.v (.p rfl<|.nil)) (.cons (.v (.b<|.nil)) .nil))) (ren_sl _) (.turned (.kept rfl (.kept rfl .nil))) rfl) rfl<|.p0 rfl rfl fun x19 _=>?_
   refine .g 7 rfl<|.dn (by kernel_rfl)<|.g 6 rfl<|.bind fun x20 h14=>.st rfl (cl (CC.h h14) [0] [] [false] rfl (.p rfl<|.a kApiDy<|.a kApiDy<|.nil) (.p rfl (.i<|.i<|.nil) .nil) fnil (.cons (.v (.i<|.i<|.nil)) .nil) (ren_agg (K:=kI) _) (.kept rfl .nil) rfl) rfl<|.g 4 rfl<|.fi rfl rfl
instance bess_J_1_i (a0:AI) (a1:AI) (a2:Int) (a3:Int) (a4:Int):CC (bess_J_1 a0 a1 a2 a3 a4) Tryz.prog 33 [(.agg (kI.enc a0)),(.agg (kI.enc a1)),(.int .i64 a2),(.ptr 0 0)] [(.live 29 [(.ptr 1 0)]),(.live 45 [(.int .i64 a3),(.int .i64 a4)])] (fun r=>(.agg (kI.enc (⟨⟨(((r.1).Lo).M),((r.1).Lo).E⟩,⟨(((r.1).Hi).M),((r.1).Hi).E⟩⟩:AI)))) (fun r=>[(.live 29 [(.ptr 1 0)]),(.live 45 [(.int .i64 r.2),(.int .i64 a4)])]):=cc func33 (by kernel_rfl) rfl fun E=>by
 unfold bess_J_1
 refine .g 13 rfl<|.bind fun x4 h1=>.st rfl (cl (CC.h h1) [1] [] [true] rfl (.p rfl<|.a kI<|.a kI<|.nil) (.p rfl (.i<|.i<|.nil) .nil) fnil (.cons (.v (.i<|.i<|.nil)) .nil) (ren_agg (K:=kI) _) (.turned .nil) rfl) rfl<|.g 2 rfl<|.bind fun x5 h2=>.st rfl (cl (CC.h h2) [1] [] [true] rfl (.p rfl<|.i<|.nil) (.p rfl (.i<|.i<|.nil) .nil) fnil (.cons (.v (.i<|.i<|.nil)) .nil) (ren_agg (K:=kI) _) (.turned .nil) rfl) rfl<|.bind fun x6 h3=>.st rfl (cl (CC.h h3) [1] [] [true] rfl (.p rfl<|.a kI<|.a kI<|.nil) (.p rfl (.i<|.i<|.nil) .nil) fnil (.cons (.v (.i<|.i<|.nil)) .nil) (ren_agg (K:=kI) _) (.turned .nil) rfl) rfl<|.g 1 rfl<|.dn (by kernel_rfl)<|.g 2 rfl<|.fi rfl rfl
instance cv_Neg_i (a0:AI) (a1:Int) (a2:Int):CC (cv_Neg a0 a1 a2) Tryz.prog 24 [(.ptr 0 0),(.agg (kI.enc a0))] [(.live 45 [(.int .i64 a1),(.int .i64 a2)])] (fun r=>(.agg (kI.enc (⟨⟨(((r.1).Lo).M),((r.1).Lo).E⟩,⟨(((r.1).Hi).M),((r.1).Hi).E⟩⟩:AI)))) (fun r=>[(.live 45 [(.int .i64 r.2),(.int .i64 a2)])]):=cc func24 (by kernel_rfl) rfl fun E=>by
 unfold cv_Neg
 refine .g 11 rfl<|.st rfl (bs kI [a0] rfl rfl) rfl<|.bind fun x4 h1=>.st rfl (cl (CC.h h1) [0] [] [true] rfl (.p rfl<|.l<|.nil) (.p rfl (.i<|.i<|.nil) .nil) fnil (.cons (.v (.i<|.i<|.nil)) .nil) (.bool _) (.turned .nil) rfl) rfl<|.g 3 rfl<|?_
 refine .cd rfl (fun _ _=>?_) fun _ _=>?_
 ·refine .g 8 rfl<|.fi rfl rfl
 ·refine .g 6 rfl<|.p0 rfl rfl fun x5 _=>.g 2 rfl<|.p0 rfl rfl fun x6 _=>.g 2 rfl<|.dn (by kernel_rfl)<|.g 2 rfl<|.fi rfl rfl
instance dyad_Add_i (a0:AD) (a1:AD):PC (dyad_Add a0 a1) Tryz.prog 77 [(.agg (kApiDy.enc a0)),(.agg (kApiDy.enc a1))] (fun r=>(.tup [(.agg (kApiDy.enc (⟨((r.1).M),(r.1).E⟩:AD))),(.int .i64 r.2)])):=pc func77 (by kernel_rfl) rfl fun E=>by
 unfold dyad_Add
 refine .g 21 rfl<|.st rfl (bs kApiDy [a0,a1] rfl rfl) rfl<|.bind fun x8 h1=>.st rfl (cl (CC.h h1) [3] [] [true] rfl (.p rfl<|.l<|.nil) (.p rfl (.i<|.b<|.l<|.i<|.nil) .nil) fnil (.cons (.v (.i<|.b<|.l<|.i<|.nil)) .nil) (.bool _) (.turned .nil) rfl) rfl<|.g 2 rfl<|?_
 refine .cut (fun x:Bool × (List Int) × Int=>(dyad_Add_j1 x8 x.1 x.2.1 x.2.2,[eP 4 2,eP 6 3],[(2,(.live 26 [(.bool false),(slK (kInt .u32) []),(.int .i64 0)])),(3,(.live 78 [(.int .i64 x8.2),(.bool x.1),(slK (kInt .u32) x.2.1),(.int .i64 x.2.2)]))])) ?_ ?_
 ·rintro ⟨y10,y11,y12⟩
  dsimp only [dyad_Add_j1]
  refine .g 4 rfl<|.bind fun x13 h5=>.st rfl (cl (CC.h h5) [3] [] [true] rfl (.p rfl<|.nil) (.p rfl (.i<|.b<|.l<|.i<|.nil) .nil) fnil (.cons (.v (.i<|.b<|.l<|.i<|.nil)) .nil) (ren_tupL (.a kApiDy<|.i<|.nil)) (.turned .nil) rfl) rfl<|.g 7 rfl<|.fi rfl rfl
 ·intro h6
  refine .cd rfl (fun _ _=>?_) fun _ _=>?_
  ·refine .g 4 rfl<|.p0 rfl rfl fun x14 _=>.g 4 rfl<|.jw (h6 (((x14).M).Neg,((x14).M).Mag,(x14).E)) [(2,2),(3,3)] rfl
  ·refine .g 1 rfl<|.jw (h6 (false,[],0)) [(2,2),(3,3)] rfl
instance cv_sum_i (a0:AD) (a1:AD) (a2:Int) (a3:Int):CC (cv_sum a0 a1 a2 a3) Tryz.prog 45 [(.ptr 0 0),(.agg (kApiDy.enc a0)),(.agg (kApiDy.enc a1))] [(.live 45 [(.int .i64 a2),(.int .i64 a3)])] (fun r=>(.agg (kApiDy.enc (⟨((r.1).M),(r.1).E⟩:AD)))) (fun r=>[(.live 45 [(.int .i64 r.2),(.int .i64 a3)])]):=cc func45 (by kernel_rfl) rfl fun E=>by
 unfold cv_sum
 refine .g 18 rfl<|?_
 refine .cd rfl (fun _ _=>?_) fun _ _=>?_
 ·refine .g 8 rfl<|.fi rfl rfl
 ·refine .g 7 rfl<|.p0 rfl rfl fun x3 _=>.g 2 rfl<|.bind fun x4 h4=>.st rfl (cl (CC.h h4) [0] [] [true] rfl (.p rfl<|.a kApiDy<|.i<|.nil) (.p rfl (.i<|.i<|.nil) .nil) fnil (.cons (.v (.i<|.i<|.nil)) .nil) (ren_agg (K:=kApiDy) _) (.turned .nil) rfl) rfl<|.g 4 rfl<|.fi rfl rfl
instance cv_Add_i (a0:AI) (a1:AI) (a2:Int) (a3:Int):CC (cv_Add a0 a1 a2 a3) Tryz.prog 14 [(.ptr 0 0),(.agg (kI.enc a0)),(.agg (kI.enc a1))] [(.live 45 [(.int .i64 a2),(.int .i64 a3)])] (fun r=>(.agg (kI.enc (⟨⟨(((r.1).Lo).M),((r.1).Lo).E⟩,⟨(((r.1).Hi).M),((r.1).Hi).E⟩⟩:AI)))) (fun r=>[(.live 45 [(.int .i64 r.2),(.int .i64 a3)])]):=cc func14 (by kernel_rfl) rfl fun E=>by
 unfold cv_Add
 refine .g 13 rfl<|.st rfl (bs kI [a0,a1] rfl rfl) rfl<|.bind fun x7 h1=>.st rfl (cl (CC.h h1) [0] [] [true] rfl (.p rfl<|.l<|.nil) (.p rfl (.i<|.i<|.nil) .nil) fnil (.cons (.v (.i<|.i<|.nil)) .nil) (.bool _) (.turned .nil) rfl) rfl<|.g 3 rfl<|?_
 refine .cd rfl (fun _ _=>?_) fun _ _=>?_
 ·refine .g 8 rfl<|.fi rfl rfl
 ·refine .g 10 rfl<|.bind fun x8 h4=>.st rfl (cl (CC.h h4) [0] [] [true] rfl (.p rfl<|.a kApiDy<|.a kApiDy<|.nil) (.p rfl (.i<|.i<|.nil) .nil) fnil (.cons (.v (.i<|.i<|.nil)) .nil) (ren_agg (K:=kApiDy) _) (.turned .nil) rfl) rfl<|.bind fun x9 h5=>.st rfl (cl (CC.h h5) [0] [] [true] rfl (.p rfl<|.a kApiDy<|.nil) (.p rfl (.i<|.i<|.nil) .nil) fnil (.cons (.v (.i<|.i<|.nil)) .nil) (ren_agg (K:=kApiDy) _) (.turned .nil) rfl) rfl<|.g 14 rfl<|.bind fun x10 h6=>.st rfl (cl (CC.h h6) [0] [] [true] rfl (.p rfl<|.a kApiDy<|.a kApiDy<|.nil) (.p rfl (.i<|.i<|.nil) .nil) fnil (.cons (.v (.i<|.i<|.nil)) .nil) (ren_agg (K:=kApiDy) _) (.turned .nil) rfl) rfl<|.bind fun x11 h7=>.st rfl (cl (CC.h h7) [0] [] [true] rfl (.p rfl<|.a kApiDy<|.nil) (.p rfl (.i<|.i<|.nil) .nil) fnil (.cons (.v (.i<|.i<|.nil)) .nil) (ren_agg (K:=kApiDy) _) (.turned .nil) rfl) rfl<|.bind fun x12 h8=>.st rfl (cl (CC.h h8) [0] [] [false] rfl (.p rfl<|.a kApiDy<|.a kApiDy<|.nil) (.p rfl (.i<|.i<|.nil) .nil) fnil (.cons (.v (.i<|.i<|.nil)) .nil) (ren_agg (K:=kI) _) (.kept rfl .nil) rfl) rfl<|.g 1 rfl<|.dn (by kernel_rfl)<|?_
  refine .g 2 rfl<|.fi rfl rfl
instance cv_Wide_i (a0:AI) (a1:AD) (a2:Int) (a3:Int):CC (cv_Wide a0 a1 a2 a3) Tryz.prog 20 [(.ptr 0 0),(.agg (kI.enc a0)),(.agg (kApiDy.enc a1))] [(.live 45 [(.int .i64 a2),(.int .i64 a3)])] (fun r=>(.agg (kI.enc (⟨⟨(((r.1).Lo).M),((r.1).Lo).E⟩,⟨(((r.1).Hi).M),((r.1).Hi).E⟩⟩:AI)))) (fun r=>[(.live 45 [(.int .i64 r.2),(.int .i64 a3)])]):=cc func20 (by kernel_rfl) rfl fun E=>by
 unfold cv_Wide
 refine .g 14 rfl<|.st rfl (bs kI [a0,(⟨⟨⟨false,[]⟩,0⟩,a1⟩:AI)] rfl rfl) rfl<|.bind fun x8 h1=>.st rfl (cl (CC.h h1) [0] [] [true] rfl (.p rfl<|.l<|.nil) (.p rfl (.i<|.i<|.nil) .nil) fnil (.cons (.v (.i<|.i<|.nil)) .nil) (.bool _) (.turned .nil) rfl) rfl<|.g 3 rfl<|?_
 refine .cd rfl (fun _ _=>?_) fun _ _=>?_
 ·refine .g 8 rfl<|.fi rfl rfl
 ·refine .g 9 rfl<|.p0 rfl rfl fun x9 _=>.bind fun x10 h5=>.st rfl (cl (CC.h h5) [0] [] [true] rfl (.p rfl<|.a kApiDy<|.a kApiDy<|.nil) (.p rfl (.i<|.i<|.nil) .nil) fnil (.cons (.v (.i<|.i<|.nil)) .nil) (ren_agg (K:=kApiDy) _) (.turned .nil) rfl) rfl<|.bind fun x11 h6=>.st rfl (cl (CC.h h6) [0] [] [true] rfl (.p rfl<|.a kApiDy<|.nil) (.p rfl (.i<|.i<|.nil) .nil) fnil (.cons (.v (.i<|.i<|.nil)) .nil) (ren_agg (K:=kApiDy) _) (.turned .nil) rfl) rfl<|.g 2 rfl<|.dn (by kernel_rfl)<|.g 10 rfl<|.bind fun x12 h7=>.st rfl (cl (CC.h h7) [0] [] [true] rfl (.p rfl<|.a kApiDy<|.a kApiDy<|.nil) (.p rfl (.i<|.i<|.nil) .nil) fnil (.cons (.v (.i<|.i<|.nil)) .nil) (ren_agg (K:=kApiDy) _) (.turned .nil) rfl) rfl<|.bind fun x13 h8=>.st rfl (cl (CC.h h8) [0] [] [true] rfl (.p rfl<|.a kApiDy<|.nil) (.p rfl (.i<|.i<|.nil) .nil) fnil (.cons (.v (.i<|.i<|.nil)) .nil) (ren_agg (K:=kApiDy) _) (.turned .nil) rfl) rfl<|.bind fun x14 h9=>?_
  refine .st rfl (cl (CC.h h9) [0] [] [false] rfl (.p rfl<|.a kApiDy<|.a kApiDy<|.nil) (.p rfl (.i<|.i<|.nil) .nil) fnil (.cons (.v (.i<|.i<|.nil)) .nil) (ren_agg (K:=kI) _) (.kept rfl .nil) rfl) rfl<|.g 1 rfl<|.dn (by kernel_rfl)<|.g 2 rfl<|.fi rfl rfl
instance iv_trouble_Err_i (a0:Int) (a1:Int):CC (iv_trouble_Err a0 a1) Tryz.prog 16 [(.ptr 0 0)] [(.live 45 [(.int .i64 a0),(.int .i64 a1)])] (fun r=>(.int .i64 r)) (fun r=>[(.live 45 [(.int .i64 a0),(.int .i64 a1)])]):=cc func16 (by kernel_rfl) rfl fun E=>by
 unfold iv_trouble_Err
 refine .g 15 rfl<|.fi rfl rfl
instance cv_Out_i (a0:AI) (a1:Int) (a2:Int):CC (cv_Out a0 a1 a2) Tryz.prog 36 [(.ptr 0 0),(.agg (kI.enc a0))] [(.live 45 [(.int .i64 a1),(.int .i64 a2)])] (fun r=>(.agg (kI.enc (⟨⟨(((r.1).Lo).M),((r.1).Lo).E⟩,⟨(((r.1).Hi).M),((r.1).Hi).E⟩⟩:AI)))) (fun r=>[(.live 45 [(.int .i64 r.2),(.int .i64 a2)])]):=cc func36 (by kernel_rfl) rfl fun E=>by
 unfold cv_Out
 refine .g 11 rfl<|.st rfl (bs kI [a0] rfl rfl) rfl<|.bind fun x5 h1=>.st rfl (cl (CC.h h1) [0] [] [true] rfl (.p rfl<|.l<|.nil) (.p rfl (.i<|.i<|.nil) .nil) fnil (.cons (.v (.i<|.i<|.nil)) .nil) (.bool _) (.turned .nil) rfl) rfl<|.g 3 rfl<|?_
 refine .cd rfl (fun _ _=>?_) fun _ _=>?_
 ·refine .g 8 rfl<|.fi rfl rfl
 ·refine .g 7 rfl<|.bind fun x6 h4=>.st rfl (cl (CC.h h4) [0] [] [true] rfl (.p rfl<|.a kApiDy<|.nil) (.p rfl (.i<|.i<|.nil) .nil) fnil (.cons (.v (.i<|.i<|.nil)) .nil) (ren_agg (K:=kApiDy) _) (.turned .nil) rfl) rfl<|.g 11 rfl<|.bind fun x7 h5=>.st rfl (cl (CC.h h5) [0] [] [true] rfl (.p rfl<|.a kApiDy<|.nil) (.p rfl (.i<|.i<|.nil) .nil) fnil (.cons (.v (.i<|.i<|.nil)) .nil) (ren_agg (K:=kApiDy) _) (.turned .nil) rfl) rfl<|.bind fun x8 h6=>.st rfl (cl (CC.h h6) [0] [] [false] rfl (.p rfl<|.a kApiDy<|.a kApiDy<|.nil) (.p rfl (.i<|.i<|.nil) .nil) fnil (.cons (.v (.i<|.i<|.nil)) .nil) (ren_agg (K:=kI) _) (.kept rfl .nil) rfl) rfl<|.g 1 rfl<|.dn (by kernel_rfl)<|.g 2 rfl<|.fi rfl rfl
end Go.Proofs.YtpcdcpjjekkemaaGreat.Gen
