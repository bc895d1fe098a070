/- Printed by geng.py: a call does what the plain function says. -/
import Derived.Test.YtoakhpdeadglpaaGreatFunNamesGenP1
set_option linter.unusedVariables false
set_option linter.unusedSimpArgs false
set_option maxRecDepth 4000
set_option synthInstance.maxSize 4000
set_option synthInstance.maxHeartbeats 400000
namespace Go.Proofs.YtoakhpdeadglpaaGreat.Gen
open Go Go.Abs Go.Proofs Go.Proofs.Tryz
instance quo_long_i (a0:List Int) (a1:List Int):PC (quo_long a0 a1) Tryz.prog 274 [(slK (kInt .u32) a0),(slK (kInt .u32) a1)] (fun r=>(.tup [(slK (kInt .u32) r.1),(slK (kInt .u32) r.2.1),(.bool r.2.2)])):=pc func274 (by kernel_rfl) rfl fun E=>by
 unfold quo_long
 refine .g 2 rfl<|.st rfl (as0 rfl) rfl<|.st rfl (as0 rfl) rfl<|.g 7 rfl<|.ln rfl rfl<|.g 1 rfl<|.ix rfl rfl<|.g 1 rfl<|.p0 rfl rfl fun x272 _=>.g 7 rfl<|.p0 rfl rfl fun x273 _=>.g 9 rfl<|.ln rfl rfl<|.g 6 rfl<|?_
 refine .ln rfl rfl<|.g 1 rfl<|.guard fun h4=>.sv (.row 0 (kInt .u32).sz 0 (((List.replicate ((IntKind.i64.wrap ((a0.length:Int)+1)).toNat) (kInt .u32).z)).length)) [(0,(rwK (kInt .u32) 117 (List.replicate ((IntKind.i64.wrap ((a0.length:Int)+1)).toNat) (kInt .u32).z)))] rfl (snd_makeK (kInt .u32) _ _ _ _ _ 0 _ _ _ rfl underlying22 ze117 sb117 (by decide) rfl rfl rfl rfl rfl h4) rfl<|.g 7 rfl<|.p0 rfl rfl fun x274 _=>.g 11 rfl<|.sv (.int .i64 ((copyN (List.replicate ((IntKind.i64.wrap ((a0.length:Int)+1)).toNat) (kInt .u32).z) x274.1:Nat):Int)) [(0,(rwK (kInt .u32) 117 (copyL (List.replicate ((IntKind.i64.wrap ((a0.length:Int)+1)).toNat) (kInt .u32).z) x274.1)))] rfl (snd_copyL (kInt .u32) _ _ _ _ _ 0 (List.replicate ((IntKind.i64.wrap ((a0.length:Int)+1)).toNat) (kInt .u32).z) x274.1 rfl underlying22 si117 rfl rfl rfl rfl rfl) rfl<|?_
 refine .weak ?_ (fun a w h=>Conc.relen h 9 (((copyL (List.replicate ((IntKind.i64.wrap ((a0.length:Int)+1)).toNat) (kInt .u32).z) x274.1)).length) rfl (length_copyL _ _).symm)
 refine .g 5 rfl<|.ln rfl rfl<|.g 3 rfl<|.guard fun h6=>.sv (.row 1 (kInt .u32).sz 0 (((List.replicate ((IntKind.i64.wrap ((IntKind.i64.wrap ((a0.length:Int)-(x273.1.length:Int)))+1)).toNat) (kInt .u32).z)).length)) [(1,(rwK (kInt .u32) 117 (List.replicate ((IntKind.i64.wrap ((IntKind.i64.wrap ((a0.length:Int)-(x273.1.length:Int)))+1)).toNat) (kInt .u32).z)))] rfl (snd_makeK (kInt .u32) _ _ _ _ _ 1 _ _ _ rfl underlying22 ze117 sb117 (by decide) rfl rfl rfl rfl rfl h6) rfl<|.g 7 rfl<|.ln rfl rfl<|.g 5 rfl<|?_
 refine .cut (fun x:(List Int) × (List Int)=>(quo_long_j1 x273 x272 x.1 x.2,[(4,some (.row 1 (kInt .u32).sz 0 ((x.1).length))),eI 7 x272,eI 8 (x273.1.length:Int),(9,some (.row 0 (kInt .u32).sz 0 ((x.2).length)))],[(1,(rwK (kInt .u32) 117 x.1)),(0,(rwK (kInt .u32) 117 x.2))])) ?_ ?_
 ·rintro ⟨y407,y408⟩
  dsimp only [quo_long_j1]
  refine .g 2 rfl<|?_
  refine .weak ?_ (fun a w h=>Conc.freezeK (kInt .u32) h 4 1 0 ((y407).length) 117 y407 rfl rfl (by omega))
  refine .weak ?_ (fun a w h=>take_all h)
  refine .weak ?_ (fun a w h=>Conc.freezeK (kInt .u32) h 9 0 0 ((y408).length) 117 y408 rfl rfl (by omega))
  refine .weak ?_ (fun a w h=>take_all h)
  refine .g 2 rfl<|.p0 rfl rfl fun x409 _=>.g 2 rfl<|.guard fun h638=>.sv (slK (kInt .u32) (y408.take x273.1.length)) [] rfl (snd_sliceK (kInt .u32) _ _ _ _ _ _ 0 (x273.1.length:Int) rfl underlying22 si117 rfl rfl rfl rfl rfl h638) rfl<|.g 1 rfl<|.p0 rfl rfl fun x410 _=>.g 3 rfl<|.dn (by kernel_rfl)<|.g 2 rfl<|.fi rfl rfl
 ·intro h640
  refine .g 1 rfl<|?_
  refine .lp (fun n (x:Int × (List Int) × (List Int))=>quo_long_l2 x273 x272 n x.1 x.2.1 x.2.2) (fun x=>([eL 1 x273.1,(4,some (.row 1 (kInt .u32).sz 0 ((x.2.1).length))),eI 7 x272,eI 8 (x273.1.length:Int),(9,some (.row 0 (kInt .u32).sz 0 ((x.2.2).length))),eI 12 x.1],[(1,(rwK (kInt .u32) 117 x.2.1)),(0,(rwK (kInt .u32) 117 x.2.2))])) ((IntKind.i64.wrap ((a0.length:Int)-(x273.1.length:Int))),(List.replicate ((IntKind.i64.wrap ((IntKind.i64.wrap ((a0.length:Int)-(x273.1.length:Int)))+1)).toNat) (kInt .u32).z),(copyL (List.replicate ((IntKind.i64.wrap ((a0.length:Int)+1)).toNat) (kInt .u32).z) x274.1)) [(1,1),(0,0)] rfl ?_
  rintro n2 ⟨y498,y499,y500⟩
  try dsimp only
  rw [quo_long_l2]
  refine .g 7 rfl<|?_
  refine .cd rfl (fun _ _=>?_) fun _ _=>?_
  ·refine .g 3 rfl<|?_
   refine .cut (fun x:(List Int) × (List Int)=>(quo_long_j3 (fun z0 z1 z2=>quo_long_l2 x273 x272 n2 z0 z1 z2) y498 x.1 x.2,[eL 1 x273.1,(4,some (.row 1 (kInt .u32).sz 0 ((x.1).length))),eI 7 x272,eI 8 (x273.1.length:Int),(9,some (.row 0 (kInt .u32).sz 0 ((x.2).length))),eI 12 y498],[(1,(rwK (kInt .u32) 117 x.1)),(0,(rwK (kInt .u32) 117 x.2))])) ?_ ?_
   ·rintro ⟨y521,y522⟩
    dsimp only [quo_long_j3]
    refine .g 6 rfl<|.ag ((IntKind.i64.wrap (y498-1)),y521,y522) [(1,1),(0,0)] rfl
   ·intro h1167
    refine .g 8 rfl<|.guard fun h1168=>?_
    obtain ⟨h11681,h11682⟩:=h1168
    refine .sv (.rptr 0 (kInt .u32).sz ((IntKind.i64.wrap (y498+(x273.1.length:Int))).toNat) 0) [] rfl (idx_r (snd_index_r _ _ _ _ _ 0 0 ((y500).length) _ (IntKind.i64.wrap (y498+(x273.1.length:Int))) rfl underlying22 si117 rfl rfl rfl rfl h11681 (by omega)) (Nat.zero_add _)) rfl<|.sv (.int .u32 ((y500).getD ((IntKind.i64.wrap (y498+(x273.1.length:Int))).toNat) (kInt .u32).z)) [] rfl (snd_loadK_sca (kInt .u32) _ _ 0 ((IntKind.i64.wrap (y498+(x273.1.length:Int))).toNat) 0 _ _ rfl sc117 rfl rfl rfl rfl (by first | omega | (simp only [List.length_set]; omega)) (by decide)) rfl<|.g 7 rfl<|.guard fun h1169=>?_
    obtain ⟨h11691,h11692⟩:=h1169
    refine .sv (.rptr 0 (kInt .u32).sz ((IntKind.i64.wrap ((IntKind.i64.wrap (y498+(x273.1.length:Int)))-1)).toNat) 0) [] rfl (idx_r (snd_index_r _ _ _ _ _ 0 0 ((y500).length) _ (IntKind.i64.wrap ((IntKind.i64.wrap (y498+(x273.1.length:Int)))-1)) rfl underlying22 si117 rfl rfl rfl rfl h11691 (by omega)) (Nat.zero_add _)) rfl<|.sv (.int .u32 ((y500).getD ((IntKind.i64.wrap ((IntKind.i64.wrap (y498+(x273.1.length:Int)))-1)).toNat) (kInt .u32).z)) [] rfl (snd_loadK_sca (kInt .u32) _ _ 0 ((IntKind.i64.wrap ((IntKind.i64.wrap (y498+(x273.1.length:Int)))-1)).toNat) 0 _ _ rfl sc117 rfl rfl rfl rfl (by first | omega | (simp only [List.length_set]; omega)) (by decide)) rfl<|.g 3 rfl<|.dn (by kernel_rfl)<|.g 7 rfl<|.ix rfl rfl<|.g 2 rfl<|.guard fun h1171=>.st rfl (snd_quo _ _ _ _ _ _ _ rfl rfl rfl rfl rfl h1171) rfl<|.g 4 rfl<|.ix rfl rfl<|.g 2 rfl<|.guard fun h1173=>.st rfl (snd_rem _ _ _ _ _ _ _ rfl rfl rfl rfl rfl h1173) rfl<|?_
    refine .g 2 rfl<|.dn (by kernel_rfl)<|.g 5 rfl<|?_
    refine .cut (fun x:Int=>(quo_long_j4 y498 x273 y500 y499 (fun z0 z1 z2=>quo_long_l2 x273 x272 n2 z0 z1 z2) x,[eL 1 x273.1,(4,some (.row 1 (kInt .u32).sz 0 ((y499).length))),eI 7 x272,eI 8 (x273.1.length:Int),(9,some (.row 0 (kInt .u32).sz 0 ((y500).length))),eI 12 y498,eX 14 x],[(1,(rwK (kInt .u32) 117 y499)),(0,(rwK (kInt .u32) 117 y500))])) ?_ ?_
    ·rintro y530
     dsimp only [quo_long_j4]
     refine .g 10 rfl<|.guard fun h1216=>.sv (.row 0 (kInt .u32).sz (0+y498.toNat) ((IntKind.i64.wrap ((IntKind.i64.wrap (y498+(x273.1.length:Int)))+1)).toNat-y498.toNat)) [] rfl (snd_slice_r _ _ _ _ _ _ 0 0 ((y500).length) y498 (IntKind.i64.wrap ((IntKind.i64.wrap (y498+(x273.1.length:Int)))+1)) rfl underlying22 si117 rfl rfl rfl rfl rfl h1216.1 h1216.2.1 h1216.2.2) rfl<|.g 2 rfl<|.bind fun x531 h1217=>.st rfl (cl (CC.h h1217) [0] [] [true] rfl (.cons (.row _ _ _ _ _ rfl)<|.l<|.i<|.nil) (.cons trivial (renV_rw _ _) .nil) fnil (.cons (renV_rw _ _) .nil) (.bool _) (.turned .nil) rfl) rfl<|.guard fun h1218=>?_
     refine .weak ?_ (fun a w h=>Conc.relen h 9 ((x531.2).length) rfl h1218.symm)
     refine .g 2 rfl<|?_
     refine .cut (fun x:Int × (List Int)=>(quo_long_j5 y498 y499 (fun z0 z1 z2=>quo_long_l2 x273 x272 n2 z0 z1 z2) x.1 x.2,[eL 1 x273.1,(4,some (.row 1 (kInt .u32).sz 0 ((y499).length))),eI 7 x272,eI 8 (x273.1.length:Int),(9,some (.row 0 (kInt .u32).sz 0 ((x.2).length))),eI 12 y498,eX 14 x.1],[(1,(rwK (kInt .u32) 117 y499)),(0,(rwK (kInt .u32) 117 x.2))])) ?_ ?_
     ·rintro ⟨y533,y534⟩
      dsimp only [quo_long_j5]
      refine .g 6 rfl<|.guard fun h1224=>?_
      obtain ⟨h12241,h12242⟩:=h1224
      refine .sv (.rptr 1 (kInt .u32).sz y498.toNat 0) [] rfl (idx_r (snd_index_r _ _ _ _ _ 1 0 ((y499).length) _ y498 rfl underlying22 si117 rfl rfl rfl rfl h12241 (by omega)) (Nat.zero_add _)) rfl<|.sm [(1,(rwK (kInt .u32) 117 ((y499).set y498.toNat (IntKind.u32.wrap y533))))] rfl (snd_storeK_sca (kInt .u32) _ _ _ 1 y498.toNat _ _ (IntKind.u32.wrap y533) _ rfl rfl rfl sc117 rfl rfl rfl rfl rfl rfl (by first | omega | (simp only [List.length_set]; omega))) rfl<|?_
      refine .weak ?_ (fun a w h=>Conc.relen h 4 ((((y499).set y498.toNat (IntKind.u32.wrap y533))).length) rfl List.length_set.symm)
      refine .g 3 rfl<|.jw (h1167 (((y499).set y498.toNat (IntKind.u32.wrap y533)),y534)) [(1,1),(0,0)] rfl
     ·intro h1225
      refine .cd rfl (fun _ _=>?_) fun _ _=>?_
      ·refine .g 14 rfl<|.guard fun h1228=>.sv (.row 0 (kInt .u32).sz (0+y498.toNat) ((IntKind.i64.wrap ((IntKind.i64.wrap (y498+(x273.1.length:Int)))+1)).toNat-y498.toNat)) [] rfl (snd_slice_r _ _ _ _ _ _ 0 0 ((x531.2).length) y498 (IntKind.i64.wrap ((IntKind.i64.wrap (y498+(x273.1.length:Int)))+1)) rfl underlying22 si117 rfl rfl rfl rfl rfl h1228.1 h1228.2.1 h1228.2.2) rfl<|.g 1 rfl<|.bind fun x535 h1229=>.st rfl (cl (CC.h h1229) [0] [] [true] rfl (.cons (.row _ _ _ _ _ rfl)<|.l<|.nil) (.cons trivial (renV_rw _ _) .nil) fnil (.cons (renV_rw _ _) .nil) (ren_tupL .nil) (.turned .nil) rfl) rfl<|.guard fun h1230=>?_
       refine .weak ?_ (fun a w h=>Conc.relen h 9 ((x535).length) rfl h1230.symm)
       refine .g 1 rfl<|.jw (h1225 ((IntKind.u64.wrap (y530-1)),x535)) [(1,1),(0,0)] rfl
      ·refine .g 1 rfl<|.jw (h1225 (y530,x531.2)) [(1,1),(0,0)] rfl
    ·intro h1231
     refine .g 1 rfl<|?_
     refine .lp (fun n (x:Int × Int)=>quo_long_l6 x273 y498 y500 y499 (fun z0 z1 z2=>quo_long_l2 x273 x272 n2 z0 z1 z2) n x.1 x.2) (fun x=>([eL 1 x273.1,(4,some (.row 1 (kInt .u32).sz 0 ((y499).length))),eI 7 x272,eI 8 (x273.1.length:Int),(9,some (.row 0 (kInt .u32).sz 0 ((y500).length))),eI 12 y498,eX 14 x.1,eX 15 x.2],[(1,(rwK (kInt .u32) 117 y499)),(0,(rwK (kInt .u32) 117 y500))])) ((IntKind.u64.wrap ((orI .u64 (shlI .u64 (IntKind.u64.wrap ((y500).getD ((IntKind.i64.wrap (y498+(x273.1.length:Int))).toNat) (kInt .u32).z)) 32) (IntKind.u64.wrap ((y500).getD ((IntKind.i64.wrap ((IntKind.i64.wrap (y498+(x273.1.length:Int)))-1)).toNat) (kInt .u32).z))).tdiv (IntKind.u64.wrap (x273.1.getD ((IntKind.i64.wrap ((x273.1.length:Int)-1)).toNat) (kInt .u32).z)))),((orI .u64 (shlI .u64 (IntKind.u64.wrap ((y500).getD ((IntKind.i64.wrap (y498+(x273.1.length:Int))).toNat) (kInt .u32).z)) 32) (IntKind.u64.wrap ((y500).getD ((IntKind.i64.wrap ((IntKind.i64.wrap (y498+(x273.1.length:Int)))-1)).toNat) (kInt .u32).z))).tmod (IntKind.u64.wrap (x273.1.getD ((IntKind.i64.wrap ((x273.1.length:Int)-1)).toNat) (kInt .u32).z)))) [(1,1),(0,0)] rfl ?_
     rintro n6 ⟨y540,y541⟩
     try dsimp only
     rw [quo_long_l6]
     refine .g 2 rfl<|?_
     refine .cut (fun x:Bool=>(quo_long_j7 x273 y541 y498 y500 y499 (fun z0 z1 z2=>quo_long_l2 x273 x272 n2 z0 z1 z2) y540 (fun z0 z1=>quo_long_l6 x273 y498 y500 y499 (fun z0 z1 z2=>quo_long_l2 x273 x272 n2 z0 z1 z2) n6 z0 z1) x,[eL 1 x273.1,(4,some (.row 1 (kInt .u32).sz 0 ((y499).length))),eI 7 x272,eI 8 (x273.1.length:Int),(9,some (.row 0 (kInt .u32).sz 0 ((y500).length))),eI 12 y498,eX 14 y540,eX 15 y541,eB 114 x],[(1,(rwK (kInt .u32) 117 y499)),(0,(rwK (kInt .u32) 117 y500))])) ?_ ?_
     ·rintro y542
      dsimp only [quo_long_j7]
      refine .g 1 rfl<|?_
      refine .cd rfl (fun _ _=>?_) fun _ _=>?_
      ·refine .g 16 rfl<|.ix rfl rfl<|.g 12 rfl<|?_
       refine .cd rfl (fun _ _=>?_) fun _ _=>?_
       ·refine .g 4 rfl<|.jw (h1231 (IntKind.u64.wrap (y540-1))) [(1,1),(0,0)] rfl
       ·refine .g 2 rfl<|.ag ((IntKind.u64.wrap (y540-1)),(IntKind.u64.wrap (y541+(IntKind.u64.wrap (x273.1.getD ((IntKind.i64.wrap ((x273.1.length:Int)-1)).toNat) (kInt .u32).z))))) [(1,1),(0,0)] rfl
      ·refine .g 4 rfl<|.jw (h1231 y540) [(1,1),(0,0)] rfl
     ·intro h1271
      refine .g 4 rfl<|?_
      refine .gd 93 rfl (fun _=>?_) fun _=>?_
      ·refine .g 21 rfl<|.dn (by kernel_rfl)<|.jw (h1271 true) [(1,1),(0,0)] rfl
      ·refine .g 4 rfl<|.ix rfl rfl<|.g 10 rfl<|.guard fun h1274=>?_
       obtain ⟨h12741,h12742⟩:=h1274
       refine .sv (.rptr 0 (kInt .u32).sz ((IntKind.i64.wrap ((IntKind.i64.wrap (y498+(x273.1.length:Int)))-2)).toNat) 0) [] rfl (idx_r (snd_index_r _ _ _ _ _ 0 0 ((y500).length) _ (IntKind.i64.wrap ((IntKind.i64.wrap (y498+(x273.1.length:Int)))-2)) rfl underlying22 si117 rfl rfl rfl rfl h12741 (by omega)) (Nat.zero_add _)) rfl<|.sv (.int .u32 ((y500).getD ((IntKind.i64.wrap ((IntKind.i64.wrap (y498+(x273.1.length:Int)))-2)).toNat) (kInt .u32).z)) [] rfl (snd_loadK_sca (kInt .u32) _ _ 0 ((IntKind.i64.wrap ((IntKind.i64.wrap (y498+(x273.1.length:Int)))-2)).toNat) 0 _ _ rfl sc117 rfl rfl rfl rfl (by first | omega | (simp only [List.length_set]; omega)) (by decide)) rfl<|.g 4 rfl<|.dn (by kernel_rfl)<|.jw (h1271 (decide ((IntKind.u64.wrap (y540*(IntKind.u64.wrap (x273.1.getD ((IntKind.i64.wrap ((x273.1.length:Int)-2)).toNat) (kInt .u32).z))))>(orI .u64 (shlI .u64 y541 32) (IntKind.u64.wrap ((y500).getD ((IntKind.i64.wrap ((IntKind.i64.wrap (y498+(x273.1.length:Int)))-2)).toNat) (kInt .u32).z)))))) [(1,1),(0,0)] rfl
  ·refine .g 4 rfl<|.jw (h640 (y499,y500)) [(1,1),(0,0)] rfl
instance quo_DivMod_i (a0:List Int) (a1:List Int):PC (quo_DivMod a0 a1) Tryz.prog 184 [(slK (kInt .u32) a0),(slK (kInt .u32) a1)] (fun r=>(.tup [(slK (kInt .u32) r.1),(slK (kInt .u32) r.2.1),(.bool r.2.2)])):=pc func184 (by kernel_rfl) rfl fun E=>by
 unfold quo_DivMod
 refine .g 2 rfl<|.st rfl (as0 rfl) rfl<|.st rfl (as0 rfl) rfl<|.g 6 rfl<|.p0 rfl rfl fun x8 _=>.g 6 rfl<|.p0 rfl rfl fun x9 _=>.g 8 rfl<|.ln rfl rfl<|.g 4 rfl<|?_
 refine .cd rfl (fun _ _=>?_) fun _ _=>?_
 ·refine .g 2 rfl<|.st rfl (as0 rfl) rfl<|.st rfl (as0 rfl) rfl<|.g 6 rfl<|.fi rfl rfl
 ·refine .g 4 rfl<|.p0 rfl rfl fun x12 _=>.g 4 rfl<|?_
  refine .cd rfl (fun _ _=>?_) fun _ _=>?_
  ·refine .g 3 rfl<|.st rfl (as0 rfl) rfl<|.g 7 rfl<|.fi rfl rfl
  ·refine .g 3 rfl<|.ln rfl rfl<|.g 4 rfl<|?_
   refine .cd rfl (fun _ _=>?_) fun _ _=>?_
   ·refine .g 4 rfl<|.ix rfl rfl<|.g 1 rfl<|.p0 rfl rfl fun x13 _=>.g 11 rfl<|.fi rfl rfl
   ·refine .g 7 rfl<|.p0 rfl rfl fun x14 _=>.g 9 rfl<|.fi rfl rfl
instance dw_cut_i (a0:Bool) (a1:List Int) (a2:Int) (a3:Bool) (a4:Int) (a5:Bool) (a6:Int) (a7:Bool) (a8:List Int) (a9:Int):CC (dw_cut a0 a1 a2 a3 a4 a5 a6 a7 a8 a9) Tryz.prog 185 [(.ptr 0 0),(.bool a0),(slK (kInt .u32) a1),(.int .i64 a2),(.bool a3),(.int .i64 a4),(.bool a5)] [(.live 174 [(.int .i64 a6),(.bool a7),(slK (kInt .u32) a8),(.int .i64 a9)])] (fun r=>(.tup [])) (fun r=>[(.live 174 [(.int .i64 a6),(.bool r.1),(slK (kInt .u32) r.2.1),(.int .i64 r.2.2)])]):=cc func185 (by kernel_rfl) rfl fun E=>by
 unfold dw_cut
 refine .g 4 rfl<|.p0 rfl rfl fun x68 _=>.g 11 rfl<|?_
 refine .cut (fun x:(List Int) × Int × Bool=>(dw_cut_j1 a0 a5 x.1 x.2.1 x.2.2,[eP 0 0,eB 1 a0,eL 2 x.1,eI 3 x.2.1,eB 4 x.2.2,eB 6 a5],[(0,(.live 174 [(.int .i64 a6),(.bool a7),(slK (kInt .u32) a8),(.int .i64 a9)]))])) ?_ ?_
 ·rintro ⟨y97,y98,y99⟩
  dsimp only [dw_cut_j1]
  refine .g 3 rfl<|?_
  refine .cut (fun x:Bool=>(dw_cut_j2 y97 a0 y98 x,[eP 0 0,eB 1 a0,eL 2 y97,eI 3 y98,eB 43 x],[(0,(.live 174 [(.int .i64 a6),(.bool a7),(slK (kInt .u32) a8),(.int .i64 a9)]))])) ?_ ?_
  ·rintro y100
   dsimp only [dw_cut_j2]
   refine .g 1 rfl<|?_
   refine .cut (fun x:(List Int)=>(dw_cut_j3 a0 y98 x,[eP 0 0,eB 1 a0,eL 2 x,eI 3 y98],[(0,(.live 174 [(.int .i64 a6),(.bool a7),(slK (kInt .u32) a8),(.int .i64 a9)]))])) ?_ ?_
   ·rintro y103
    dsimp only [dw_cut_j3]
    refine .g 6 rfl<|.p0 rfl rfl fun x104 _=>.g 4 rfl<|.fi rfl rfl
   ·intro h47
    refine .cd rfl (fun _ _=>?_) fun _ _=>?_
    ·refine .g 2 rfl<|.p0 rfl rfl fun x105 _=>.p0 rfl rfl fun x106 _=>.g 2 rfl<|.jw (h47 x106) [(0,0)] rfl
    ·refine .g 1 rfl<|.jw (h47 y97) [(0,0)] rfl
  ·intro h52
   refine .g 3 rfl<|?_
   refine .gd 41 rfl (fun _=>?_) fun _=>?_
   ·refine .g 3 rfl<|.jw (h52 a5) [(0,0)] rfl
   ·refine .g 3 rfl<|.jw (h52 false) [(0,0)] rfl
 ·intro h54
  refine .cd rfl (fun _ _=>?_) fun _ _=>?_
  ·refine .g 6 rfl<|?_
   refine .cut (fun x:Bool=>(dw_cut_j4 a1 x68 a4 a0 a5 a2 x,[eP 0 0,eB 1 a0,eL 2 a1,eI 3 a2,eB 4 x,eB 6 a5,eI 14 (IntKind.i64.wrap (x68-a4))],[(0,(.live 174 [(.int .i64 a6),(.bool a7),(slK (kInt .u32) a8),(.int .i64 a9)]))])) ?_ ?_
   ·rintro y120
    dsimp only [dw_cut_j4]
    refine .g 4 rfl<|.p0 rfl rfl fun x121 _=>.g 6 rfl<|.jw (h54 (x121,(IntKind.i64.wrap (a2+(IntKind.i64.wrap (x68-a4)))),y120)) [(0,0)] rfl
   ·intro h76
    refine .g 1 rfl<|?_
    refine .lp (fun n (x:Bool × Int)=>dw_cut_l5 x68 a4 a1 a0 a5 a2 n x.1 x.2) (fun x=>([eP 0 0,eB 1 a0,eL 2 a1,eI 3 a2,eB 4 x.1,eB 6 a5,eI 14 (IntKind.i64.wrap (x68-a4)),eI 15 x.2],[(0,(.live 174 [(.int .i64 a6),(.bool a7),(slK (kInt .u32) a8),(.int .i64 a9)]))])) (a3,0) [(0,0)] rfl ?_
    rintro n5 ⟨y130,y131⟩
    try dsimp only
    rw [dw_cut_l5]
    refine .g 2 rfl<|?_
    refine .cut (fun x:Bool=>(dw_cut_j6 a1 y131 (fun z0 z1=>dw_cut_l5 x68 a4 a1 a0 a5 a2 n5 z0 z1) x68 a4 a0 a5 a2 y130 x,[eP 0 0,eB 1 a0,eL 2 a1,eI 3 a2,eB 4 y130,eB 6 a5,eI 14 (IntKind.i64.wrap (x68-a4)),eI 15 y131,eB 28 x],[(0,(.live 174 [(.int .i64 a6),(.bool a7),(slK (kInt .u32) a8),(.int .i64 a9)]))])) ?_ ?_
    ·rintro y132
     dsimp only [dw_cut_j6]
     refine .g 1 rfl<|?_
     refine .cd rfl (fun _ _=>?_) fun _ _=>?_
     ·refine .g 7 rfl<|.p0 rfl rfl fun x134 _=>.g 9 rfl<|.ag (x134,(IntKind.i64.wrap (y131+1))) [(0,0)] rfl
     ·refine .g 4 rfl<|.jw (h76 y130) [(0,0)] rfl
    ·intro h94
     refine .g 5 rfl<|?_
     refine .gd 25 rfl (fun _=>?_) fun _=>?_
     ·refine .g 4 rfl<|.jw (h94 (!y130)) [(0,0)] rfl
     ·refine .g 4 rfl<|.jw (h94 false) [(0,0)] rfl
  ·refine .g 1 rfl<|.jw (h54 (a1,a2,a3)) [(0,0)] rfl
instance dyad_Div_i (a0:AD) (a1:AD) (a2:Int) (a3:Bool):PC (dyad_Div a0 a1 a2 a3) Tryz.prog 87 [(.agg (kD.enc a0)),(.agg (kD.enc a1)),(.int .i64 a2),(.bool a3)] (fun r=>(.tup [(.agg (kD.enc (⟨((r.1).M),(r.1).E⟩:AD))),(.int .i64 r.2)])):=pc func87 (by kernel_rfl) rfl fun E=>by
 unfold dyad_Div
 refine .g 17 rfl<|?_
 refine .cut (fun x:Bool × Int=>(dyad_Div_j1 a1 a0 a2 a3 x.1 x.2,[eI 2 a2,eB 3 a3,eP 4 0,eP 5 1,eP 8 2,eP 10 3,eB 41 x.1],[(0,(.live 26 [(.bool a0.M.Neg),(slK (kInt .u32) a0.M.Mag),(.int .i64 a0.E)])),(1,(.live 26 [(.bool a1.M.Neg),(slK (kInt .u32) a1.M.Mag),(.int .i64 a1.E)])),(2,(.live 26 [(.bool false),(slK (kInt .u32) []),(.int .i64 0)])),(3,(.live 174 [(.int .i64 x.2),(.bool false),(slK (kInt .u32) []),(.int .i64 0)]))])) ?_ ?_
 ·rintro ⟨y32,y33⟩
  dsimp only [dyad_Div_j1]
  refine .g 1 rfl<|?_
  refine .cut (fun x:Bool × (List Int) × Int=>(dyad_Div_j2 y33 x.1 x.2.1 x.2.2,[eP 8 2,eP 10 3],[(2,(.live 26 [(.bool false),(slK (kInt .u32) []),(.int .i64 0)])),(3,(.live 174 [(.int .i64 y33),(.bool x.1),(slK (kInt .u32) x.2.1),(.int .i64 x.2.2)]))])) ?_ ?_
  ·rintro ⟨y39,y40,y41⟩
   dsimp only [dyad_Div_j2]
   refine .g 4 rfl<|.bind fun x42 h16=>.st rfl (cl (CC.h h16) [3] [] [true] rfl (.p rfl<|.nil) (.p rfl (.i<|.b<|.l<|.i<|.nil) .nil) fnil (.cons (.v (.i<|.b<|.l<|.i<|.nil)) .nil) (ren_tupL (.a kD<|.i<|.nil)) (.turned .nil) rfl) rfl<|.g 7 rfl<|.fi rfl rfl
  ·intro h17
   refine .cd rfl (fun _ _=>?_) fun _ _=>?_
   ·refine .g 7 rfl<|.p0 rfl rfl fun x43 _=>.g 4 rfl<|.p0 rfl rfl fun x44 _=>.g 3 rfl<|.dn (by kernel_rfl)<|.g 19 rfl<|.p0 rfl rfl fun x45 _=>.g 3 rfl<|.p0 rfl rfl fun x46 _=>.g 7 rfl<|.dn (by kernel_rfl)<|.g 13 rfl<|.ln rfl rfl<|?_
    refine .g 5 rfl<|.bind fun x47 h24=>.st rfl (cl (CC.h h24) [3] [] [true] rfl (.p rfl<|.b<|.l<|.i<|.b<|.i<|.b<|.nil) (.p rfl (.i<|.b<|.l<|.i<|.nil) .nil) fnil (.cons (.v (.i<|.b<|.l<|.i<|.nil)) .nil) (ren_tupL .nil) (.turned .nil) rfl) rfl<|.g 1 rfl<|.jw (h17 (x47.1,x47.2.1,x47.2.2)) [(2,2),(3,3)] rfl
   ·refine .g 1 rfl<|.jw (h17 (false,[],0)) [(2,2),(3,3)] rfl
 ·intro h25
  refine .g 4 rfl<|.st rfl (bs kD [a0,a1] rfl rfl) rfl<|.bind fun x48 h26=>.st rfl (cl (CC.h h26) [3] [] [true] rfl (.p rfl<|.l<|.nil) (.p rfl (.i<|.b<|.l<|.i<|.nil) .nil) fnil (.cons (.v (.i<|.b<|.l<|.i<|.nil)) .nil) (.bool _) (.turned .nil) rfl) rfl<|.g 1 rfl<|?_
  refine .gd 23 rfl (fun _=>?_) fun _=>?_
  ·refine .g 2 rfl<|.bind fun x49 h28=>.st rfl (cl (CC.h h28) [3] [] [true] rfl (.p rfl<|.i<|.nil) (.p rfl (.i<|.b<|.l<|.i<|.nil) .nil) fnil (.cons (.v (.i<|.b<|.l<|.i<|.nil)) .nil) (.bool _) (.turned .nil) rfl) rfl<|.g 2 rfl<|?_
   refine .gd 28 rfl (fun _=>?_) fun _=>?_
   ·refine .g 4 rfl<|.p0 rfl rfl fun x50 _=>.g 1 rfl<|.bind fun x51 h31=>.st rfl (cl (CC.h h31) [3] [] [true] rfl (.p rfl<|.b<|.i<|.nil) (.p rfl (.i<|.b<|.l<|.i<|.nil) .nil) fnil (.cons (.v (.i<|.b<|.l<|.i<|.nil)) .nil) (.bool _) (.turned .nil) rfl) rfl<|.g 2 rfl<|?_
    refine .gd 37 rfl (fun _=>?_) fun _=>?_
    ·refine .g 1 rfl<|.p0 rfl rfl fun x52 _=>.g 2 rfl<|.dn (by kernel_rfl)<|.jw (h25 ((!x52),x51.2)) [(0,0),(1,1),(2,2),(3,3)] rfl
    ·refine .g 4 rfl<|.dn (by kernel_rfl)<|.jw (h25 (false,x51.2)) [(0,0),(1,1),(2,2),(3,3)] rfl
   ·refine .g 13 rfl<|.dn (by kernel_rfl)<|.jw (h25 (false,x49.2)) [(0,0),(1,1),(2,2),(3,3)] rfl
  ·refine .g 18 rfl<|.dn (by kernel_rfl)<|.jw (h25 (false,x48.2)) [(0,0),(1,1),(2,2),(3,3)] rfl
instance cv_Div_1_1_i (a0:AD) (a1:AD) (a2:Int) (a3:Int) (a4:Bool):CC (cv_Div_1_1 a0 a1 a2 a3 a4) Tryz.prog 190 [(.agg (kD.enc a0)),(.agg (kD.enc a1)),(.ptr 0 0),(.ptr 2 0)] [(.live 45 [(.ptr 1 0)]),(.live 53 [(.int .i64 a2),(.int .i64 a3)]),(.live 4 [(.bool a4)])] (fun r=>(.tup [(.agg (kD.enc (⟨((r.1).M),(r.1).E⟩:AD))),(.int .i64 r.2)])) (fun r=>[(.live 45 [(.ptr 1 0)]),(.live 53 [(.int .i64 a2),(.int .i64 a3)]),(.live 4 [(.bool a4)])]):=cc func190 (by kernel_rfl) rfl fun E=>by
 unfold cv_Div_1_1
 refine .g 17 rfl<|.p0 rfl rfl fun x2 _=>.g 4 rfl<|.dn (by kernel_rfl)<|.g 2 rfl<|.fi rfl rfl
instance cv_four_e8e7_i (a0:AI) (a1:AI) (a2:Int) (a3:Int) (a4:Bool):CC (cv_four_e8e7 a0 a1 a2 a3 a4) Tryz.prog 89 [(.ptr 0 0),(.agg (kI.enc a0)),(.agg (kI.enc a1)),(.fn 190 [] [(.ptr 1 0),(.ptr 2 0)])] [(.live 53 [(.int .i64 a2),(.int .i64 a3)]),(.live 45 [(.ptr 0 0)]),(.live 4 [(.bool a4)])] (fun r=>(slK kD r.1)) (fun r=>[(.live 53 [(.int .i64 r.2),(.int .i64 a3)]),(.live 45 [(.ptr 0 0)]),(.live 4 [(.bool a4)])]):=cc func89 (by kernel_rfl) rfl fun E=>by
 unfold cv_four_e8e7
 refine .g 13 rfl<|.st rfl (bs kD [a0.Lo,a0.Hi] rfl rfl) rfl<|.g 4 rfl<|.st rfl (bs kD [a1.Lo,a1.Hi] rfl rfl) rfl<|.g 2 rfl<|.dn (by kernel_rfl)<|.g 8 rfl<|.p0 rfl rfl fun x487 _=>.g 3 rfl<|?_
 refine .cut (fun x:(List AD)=>(cv_four_e8e7_j1 a1 a3 a4 a2 x,[eP 0 0,(3,some (.fn 190 [] [(.ptr 1 0),(.ptr 2 0)])),eP 6 4,eK kD 9 x,eK kD 10 [a1.Lo,a1.Hi]],[(0,(.live 53 [(.int .i64 a2),(.int .i64 a3)])),(1,(.live 45 [(.ptr 0 0)])),(2,(.live 4 [(.bool a4)])),(4,(.live 30 [(.bool a1.Lo.M.Neg),(slK (kInt .u32) a1.Lo.M.Mag),(.int .i64 a1.Lo.E),(.bool a1.Hi.M.Neg),(slK (kInt .u32) a1.Hi.M.Mag),(.int .i64 a1.Hi.E)]))])) ?_ ?_
 ·rintro y488
  dsimp only [cv_four_e8e7_j1]
  refine .g 8 rfl<|.p0 rfl rfl fun x489 _=>.g 3 rfl<|?_
  refine .cut (fun x:(List AD)=>(cv_four_e8e7_j2 y488 a3 a4 a2 x,[eP 0 0,(3,some (.fn 190 [] [(.ptr 1 0),(.ptr 2 0)])),eK kD 9 y488,eK kD 10 x],[(0,(.live 53 [(.int .i64 a2),(.int .i64 a3)])),(1,(.live 45 [(.ptr 0 0)])),(2,(.live 4 [(.bool a4)]))])) ?_ ?_
  ·rintro y490
   dsimp only [cv_four_e8e7_j2]
   refine .g 10 rfl<|.ln rfl rfl<|.g 3 rfl<|?_
   refine .cut (fun x:Int × (List AD)=>(cv_four_e8e7_j3 x.1 x.2,[(11,some (grA kD 3 x.2))],[(0,(.live 53 [(.int .i64 x.1),(.int .i64 a3)])),(1,(.live 45 [(.ptr 0 0)])),(2,(.live 4 [(.bool a4)])),(3,(grV kD 26 x.2))])) ?_ ?_
   ·rintro ⟨y731,y732⟩
    dsimp only [cv_four_e8e7_j3]
    refine .g 8 rfl<|?_
    refine .weak ?_ (fun a w h=>Conc.gr_still kD h 8 3 26 y732 rfl rfl)
    exact .fi rfl rfl
   ·intro h381
    refine .g 1 rfl<|?_
    refine .weak ?_ (fun a w h=>Conc.gr_nil kD h 11 3 26 rfl)
    refine .lo (fun n (x:Int × Int × (List AD))=>cv_four_e8e7_l4 y488 y490 a3 a4 n x.1 x.2.1 x.2.2) (fun x=>([eP 0 0,(3,some (.fn 190 [] [(.ptr 1 0),(.ptr 2 0)])),eK kD 10 y490,(11,some (grA kD 3 x.2.2)),eK kD 42 y488,eI 43 (y488.length:Int),eI 44 x.1],[(0,(.live 53 [(.int .i64 x.2.1),(.int .i64 a3)])),(1,(.live 45 [(.ptr 0 0)])),(2,(.live 4 [(.bool a4)])),(3,(grV kD 26 x.2.2))])) (0,a2,[]) rfl (fun hE=>jn (m:=3) [(0,0),(1,1),(2,2),(3,3)] hE (.p rfl rfl<|.g rfl (ren_fnL _ .nil (.p rfl<|.p rfl<|.nil))<|.l rfl<|.g rfl (ren_gr (K:=kD) (by rfl) [])<|.l rfl<|.i rfl<|.i rfl<|.nil) (.v rfl (.i<|.i<|.nil)<|.v rfl (.p rfl<|.nil)<|.v rfl (.b<|.nil)<|.cons (.refl _) (renV_gr (K:=kD) 26 [])<|.nil) rfl) ?_
    rintro n4 ⟨y892,y893,y894⟩
    try dsimp only
    rw [cv_four_e8e7_l4]
    refine .g 6 rfl<|?_
    refine .cd rfl (fun _ _=>?_) fun _ _=>?_
    ·refine .g 3 rfl<|?_
     refine .cut (fun x:Int × (List AD)=>(cv_four_e8e7_j5 (fun z0 z1 z2=>cv_four_e8e7_l4 y488 y490 a3 a4 n4 z0 z1 z2) y892 x.1 x.2,[eP 0 0,(3,some (.fn 190 [] [(.ptr 1 0),(.ptr 2 0)])),eK kD 10 y490,(11,some (grA kD 3 x.2)),eK kD 42 y488,eI 43 (y488.length:Int),eI 44 y892],[(0,(.live 53 [(.int .i64 x.1),(.int .i64 a3)])),(1,(.live 45 [(.ptr 0 0)])),(2,(.live 4 [(.bool a4)])),(3,(grV kD 26 x.2))])) ?_ ?_
     ·rintro ⟨y933,y934⟩
      dsimp only [cv_four_e8e7_j5]
      refine .g 5 rfl<|.ao ((IntKind.i64.wrap (y892+1)),y933,y934) rfl fun hE=>jn (m:=3) [(0,0),(1,1),(2,2),(3,3)] hE (.p rfl rfl<|.g rfl (ren_fnL _ .nil (.p rfl<|.p rfl<|.nil))<|.l rfl<|.g rfl (ren_gr (K:=kD) (by rfl) y934)<|.l rfl<|.i rfl<|.i rfl<|.nil) (.v rfl (.i<|.i<|.nil)<|.v rfl (.p rfl<|.nil)<|.v rfl (.b<|.nil)<|.cons (.refl _) (renV_gr (K:=kD) 26 y934)<|.nil) rfl
     ·intro h693
      refine .g 3 rfl<|.ix rfl rfl<|.g 8 rfl<|.ln rfl rfl<|.g 3 rfl<|?_
      refine .cut (fun x:Int × (List AD)=>(cv_four_e8e7_j6 (fun z0 z1 z2=>cv_four_e8e7_l4 y488 y490 a3 a4 n4 z0 z1 z2) y892 x.1 x.2,[eP 0 0,(3,some (.fn 190 [] [(.ptr 1 0),(.ptr 2 0)])),eK kD 10 y490,(11,some (grA kD 3 x.2)),eK kD 42 y488,eI 43 (y488.length:Int),eI 44 y892],[(0,(.live 53 [(.int .i64 x.1),(.int .i64 a3)])),(1,(.live 45 [(.ptr 0 0)])),(2,(.live 4 [(.bool a4)])),(3,(grV kD 26 x.2))])) ?_ ?_
      ·rintro ⟨y953,y954⟩
       dsimp only [cv_four_e8e7_j6]
       refine .g 1 rfl<|.jo (h693 (y953,y954)) rfl fun hE=>jn (m:=3) [(0,0),(1,1),(2,2),(3,3)] hE (.p rfl rfl<|.g rfl (ren_fnL _ .nil (.p rfl<|.p rfl<|.nil))<|.l rfl<|.g rfl (ren_gr (K:=kD) (by rfl) y954)<|.l rfl<|.i rfl<|.i rfl<|.nil) (.v rfl (.i<|.i<|.nil)<|.v rfl (.p rfl<|.nil)<|.v rfl (.b<|.nil)<|.cons (.refl _) (renV_gr (K:=kD) 26 y954)<|.nil) rfl
      ·intro h725
       refine .g 1 rfl<|?_
       refine .lo (fun n (x:Int × Int × (List AD))=>cv_four_e8e7_l7 y490 y488 y892 a3 a4 (fun z0 z1 z2=>cv_four_e8e7_l4 y488 y490 a3 a4 n4 z0 z1 z2) n x.1 x.2.1 x.2.2) (fun x=>([eP 0 0,(3,some (.fn 190 [] [(.ptr 1 0),(.ptr 2 0)])),eK kD 10 y490,(11,some (grA kD 3 x.2.2)),eP 13 4,eK kD 42 y488,eI 43 (y488.length:Int),eI 44 y892,eK kD 48 y490,eI 49 (y490.length:Int),eI 50 x.1],[(0,(.live 53 [(.int .i64 x.2.1),(.int .i64 a3)])),(1,(.live 45 [(.ptr 0 0)])),(2,(.live 4 [(.bool a4)])),(3,(grV kD 26 x.2.2)),(4,(.live 26 [(.bool (((y488.getD y892.toNat zAD).M).Neg)),(slK (kInt .u32) (((y488.getD y892.toNat zAD).M).Mag)),(.int .i64 ((y488.getD y892.toNat zAD).E))]))])) (0,y893,y894) rfl (fun hE=>jn (m:=3) [(0,0),(1,1),(2,2),(3,3),(4,4)] hE (.p rfl rfl<|.g rfl (ren_fnL _ .nil (.p rfl<|.p rfl<|.nil))<|.l rfl<|.g rfl (ren_gr (K:=kD) (by rfl) y894)<|.p rfl rfl<|.l rfl<|.i rfl<|.i rfl<|.l rfl<|.i rfl<|.i rfl<|.nil) (.v rfl (.i<|.i<|.nil)<|.v rfl (.p rfl<|.nil)<|.v rfl (.b<|.nil)<|.cons (.refl _) (renV_gr (K:=kD) 26 y894)<|.v rfl (.b<|.l<|.i<|.nil)<|.nil) rfl) ?_
       rintro n7 ⟨y966,y967,y968⟩
       try dsimp only
       rw [cv_four_e8e7_l7]
       refine .g 6 rfl<|?_
       refine .cd rfl (fun _ _=>?_) fun _ _=>?_
       ·refine .g 6 rfl<|.ix rfl rfl<|.g 11 rfl<|.bind fun x971 h753=>.st rfl (cl (CC.h h753) [1,0,2] [] [false,false,false] rfl (.a kD<|.a kD<|.p rfl<|.p rfl<|.nil) (.p rfl (.p rfl<|.nil) (.p rfl (.i<|.i<|.nil) (.p rfl (.b<|.nil) .nil))) fnil (.cons (.v (.p rfl<|.nil)) (.cons (.v (.i<|.i<|.nil)) (.cons (.v (.b<|.nil)) .nil))) (ren_tupL (.a kD<|.i<|.nil)) (.kept rfl (.kept rfl (.kept rfl .nil))) rfl) rfl<|.g 2 rfl<|.bind fun x972 h754=>.st rfl (cl (CC.h h754) [0] [] [true] rfl (.p rfl<|.a kD<|.i<|.nil) (.p rfl (.i<|.i<|.nil) .nil) fnil (.cons (.v (.i<|.i<|.nil)) .nil) (ren_agg (K:=kD) _) (.turned .nil) rfl) rfl<|.st rfl (bs kD [(⟨((x972.1).M),(x972.1).E⟩:AD)] rfl rfl) rfl<|.guard fun h755=>.sv (.row 6 kD.sz 0 (((y968++[(⟨((x972.1).M),(x972.1).E⟩:AD)])).length)) [(6,(rwK kD 26 (y968++[(⟨((x972.1).M),(x972.1).E⟩:AD)]))),(3,.dead)] rfl (snd_appendK_gr kD _ _ _ _ _ 3 6 y968 [(⟨((x972.1).M),(x972.1).E⟩:AD)] rfl underlying67 ze26 sb26 rfl rfl rfl rfl rfl rfl rfl h755) rfl<|.g 8 rfl<|?_
        refine .weak ?_ (fun a w h=>Conc.gr_row kD h 11 6 26 (y968++[(⟨((x972.1).M),(x972.1).E⟩:AD)]) rfl rfl (by first | omega | (simp only [List.length_append,List.length_cons,List.length_set]; omega) | simp))
        exact .ao ((IntKind.i64.wrap (y966+1)),x972.2,(y968++[(⟨((x972.1).M),(x972.1).E⟩:AD)])) rfl fun hE=>jn (m:=3) [(0,0),(1,1),(2,2),(6,3),(4,4)] hE (.p rfl rfl<|.g rfl (ren_fnL _ .nil (.p rfl<|.p rfl<|.nil))<|.l rfl<|.g rfl (ren_gr (K:=kD) (by rfl) (y968++[(⟨((x972.1).M),(x972.1).E⟩:AD)]))<|.p rfl rfl<|.l rfl<|.i rfl<|.i rfl<|.l rfl<|.i rfl<|.i rfl<|.nil) (.v rfl (.i<|.i<|.nil)<|.v rfl (.p rfl<|.nil)<|.v rfl (.b<|.nil)<|.cons (.refl _) (renV_gr (K:=kD) 26 (y968++[(⟨((x972.1).M),(x972.1).E⟩:AD)]))<|.v rfl (.b<|.l<|.i<|.nil)<|.nil) rfl
       ·refine .g 4 rfl<|.jo (h725 (y967,y968)) rfl fun hE=>jn (m:=3) [(0,0),(1,1),(2,2),(3,3)] hE (.p rfl rfl<|.g rfl (ren_fnL _ .nil (.p rfl<|.p rfl<|.nil))<|.l rfl<|.g rfl (ren_gr (K:=kD) (by rfl) y968)<|.l rfl<|.i rfl<|.i rfl<|.nil) (.v rfl (.i<|.i<|.nil)<|.v rfl (.p rfl<|.nil)<|.v rfl (.b<|.nil)<|.cons (.refl _) (renV_gr (K:=kD) 26 y968)<|.nil) rfl
    ·refine .g 4 rfl<|.jo (h381 (y893,y894)) rfl fun hE=>jn (m:=3) [(0,0),(1,1),(2,2),(3,3)] hE (.g rfl (ren_gr (K:=kD) (by rfl) y894)<|.nil) (.v rfl (.i<|.i<|.nil)<|.v rfl (.p rfl<|.nil)<|.v rfl (.b<|.nil)<|.cons (.refl _) (renV_gr (K:=kD) 26 y894)<|.nil) rfl
  ·intro h756
   refine .cd rfl (fun _ _=>?_) fun _ _=>?_
   ·refine .g 2 rfl<|.guard fun h759=>.sv (slK kD ([a1.Lo,a1.Hi].take 1)) [] rfl (snd_sliceK kD _ _ _ _ _ _ 0 1 rfl underlying67 si26 rfl rfl rfl rfl rfl h759) rfl<|.g 2 rfl<|.jw (h756 ([a1.Lo,a1.Hi].take 1)) [(0,0),(1,1),(2,2)] rfl
   ·refine .g 1 rfl<|.jw (h756 [a1.Lo,a1.Hi]) [(0,0),(1,1),(2,2)] rfl
 ·intro h760
  refine .cd rfl (fun _ _=>?_) fun _ _=>?_
  ·refine .g 2 rfl<|.guard fun h763=>.sv (slK kD ([a0.Lo,a0.Hi].take 1)) [] rfl (snd_sliceK kD _ _ _ _ _ _ 0 1 rfl underlying67 si26 rfl rfl rfl rfl rfl h763) rfl<|.g 2 rfl<|.jw (h760 ([a0.Lo,a0.Hi].take 1)) [(0,0),(1,1),(2,2),(4,4)] rfl
  ·refine .g 1 rfl<|.jw (h760 [a0.Lo,a0.Hi]) [(0,0),(1,1),(2,2),(4,4)] rfl
instance iv_ends_i (a0:List AD):PC (iv_ends a0) Tryz.prog 76 [(slK kD a0)] (fun r=>(.tup [(.agg (kD.enc (⟨((r.1).M),(r.1).E⟩:AD))),(.agg (kD.enc (⟨((r.2).M),(r.2).E⟩:AD)))])):=pc func76 (by kernel_rfl) rfl fun E=>by
 unfold iv_ends
 refine .g 9 rfl<|.ix rfl rfl<|.g 2 rfl<|.ix rfl rfl<|.g 3 rfl<|.dn (by kernel_rfl)<|.g 5 rfl<|.guard fun h3=>.sv (slK kD ((a0.take a0.length).drop 1)) [] rfl (snd_sliceK kD _ _ _ _ _ _ 1 (a0.length:Int) rfl underlying67 si26 rfl rfl rfl rfl rfl h3) rfl<|.ln rfl rfl<|.g 3 rfl<|?_
 refine .cut (fun x:Bool × (List Int) × Int × Bool × (List Int) × Int=>(iv_ends_j1 x.1 x.2.1 x.2.2.1 x.2.2.2.1 x.2.2.2.2.1 x.2.2.2.2.2,[eP 2 0,eP 3 1],[(0,(.live 26 [(.bool x.1),(slK (kInt .u32) x.2.1),(.int .i64 x.2.2.1)])),(1,(.live 26 [(.bool x.2.2.2.1),(slK (kInt .u32) x.2.2.2.2.1),(.int .i64 x.2.2.2.2.2)]))])) ?_ ?_
 ·rintro ⟨y193,y194,y195,y196,y197,y198⟩
  dsimp only [iv_ends_j1]
  refine .g 7 rfl<|.dn (by kernel_rfl)<|.g 2 rfl<|.fi rfl rfl
 ·intro h76
  refine .g 1 rfl<|?_
  refine .lp (fun n (x:Int × Bool × (List Int) × Int × Bool × (List Int) × Int)=>iv_ends_l2 a0 n x.1 x.2.1 x.2.2.1 x.2.2.2.1 x.2.2.2.2.1 x.2.2.2.2.2.1 x.2.2.2.2.2.2) (fun x=>([eP 2 0,eP 3 1,eK kD 13 ((a0.take a0.length).drop 1),eI 14 (((a0.take a0.length).drop 1).length:Int),eI 15 x.1],[(0,(.live 26 [(.bool x.2.1),(slK (kInt .u32) x.2.2.1),(.int .i64 x.2.2.2.1)])),(1,(.live 26 [(.bool x.2.2.2.2.1),(slK (kInt .u32) x.2.2.2.2.2.1),(.int .i64 x.2.2.2.2.2.2)]))])) (0,((a0.getD 0 zAD).M).Neg,((a0.getD 0 zAD).M).Mag,(a0.getD 0 zAD).E,((a0.getD 0 zAD).M).Neg,((a0.getD 0 zAD).M).Mag,(a0.getD 0 zAD).E) [(0,0),(1,1)] rfl ?_
  rintro n2 ⟨y238,y239,y240,y241,y242,y243,y244⟩
  try dsimp only
  rw [iv_ends_l2]
  refine .g 6 rfl<|?_
  refine .cd rfl (fun _ _=>?_) fun _ _=>?_
  ·refine .g 6 rfl<|.ix rfl rfl<|.g 10 rfl<|.p0 rfl rfl fun x253 _=>.g 3 rfl<|?_
   refine .cut (fun x:Bool × (List Int) × Int=>(iv_ends_j3 a0 y238 y242 y243 y244 (fun z0 z1 z2 z3 z4 z5 z6=>iv_ends_l2 a0 n2 z0 z1 z2 z3 z4 z5 z6) x.1 x.2.1 x.2.2,[eP 2 0,eP 3 1,eP 5 2,eK kD 13 ((a0.take a0.length).drop 1),eI 14 (((a0.take a0.length).drop 1).length:Int),eI 15 y238],[(0,(.live 26 [(.bool x.1),(slK (kInt .u32) x.2.1),(.int .i64 x.2.2)])),(1,(.live 26 [(.bool y242),(slK (kInt .u32) y243),(.int .i64 y244)])),(2,(.live 26 [(.bool (((((a0.take a0.length).drop 1).getD y238.toNat zAD).M).Neg)),(slK (kInt .u32) (((((a0.take a0.length).drop 1).getD y238.toNat zAD).M).Mag)),(.int .i64 ((((a0.take a0.length).drop 1).getD y238.toNat zAD).E))]))])) ?_ ?_
   ·rintro ⟨y254,y255,y256⟩
    dsimp only [iv_ends_j3]
    refine .g 5 rfl<|.p0 rfl rfl fun x257 _=>.g 3 rfl<|?_
    refine .cut (fun x:Bool × (List Int) × Int=>(iv_ends_j4 (fun z0 z1 z2 z3 z4 z5 z6=>iv_ends_l2 a0 n2 z0 z1 z2 z3 z4 z5 z6) y238 y254 y255 y256 x.1 x.2.1 x.2.2,[eP 2 0,eP 3 1,eK kD 13 ((a0.take a0.length).drop 1),eI 14 (((a0.take a0.length).drop 1).length:Int),eI 15 y238],[(0,(.live 26 [(.bool y254),(slK (kInt .u32) y255),(.int .i64 y256)])),(1,(.live 26 [(.bool x.1),(slK (kInt .u32) x.2.1),(.int .i64 x.2.2)]))])) ?_ ?_
    ·rintro ⟨y258,y259,y260⟩
     dsimp only [iv_ends_j4]
     refine .g 6 rfl<|.ag ((IntKind.i64.wrap (y238+1)),y254,y255,y256,y258,y259,y260) [(0,0),(1,1)] rfl
    ·intro h145
     refine .cd rfl (fun _ _=>?_) fun _ _=>?_
     ·refine .g 4 rfl<|.jw (h145 (((((a0.take a0.length).drop 1).getD y238.toNat zAD).M).Neg,((((a0.take a0.length).drop 1).getD y238.toNat zAD).M).Mag,(((a0.take a0.length).drop 1).getD y238.toNat zAD).E)) [(0,0),(1,1)] rfl
     ·refine .g 1 rfl<|.jw (h145 (y242,y243,y244)) [(0,0),(1,1)] rfl
   ·intro h148
    refine .cd rfl (fun _ _=>?_) fun _ _=>?_
    ·refine .g 4 rfl<|.jw (h148 (((((a0.take a0.length).drop 1).getD y238.toNat zAD).M).Neg,((((a0.take a0.length).drop 1).getD y238.toNat zAD).M).Mag,(((a0.take a0.length).drop 1).getD y238.toNat zAD).E)) [(0,0),(1,1),(2,2)] rfl
    ·refine .g 1 rfl<|.jw (h148 (y239,y240,y241)) [(0,0),(1,1),(2,2)] rfl
  ·refine .g 4 rfl<|.jw (h76 (y239,y240,y241,y242,y243,y244)) [(0,0),(1,1)] rfl
instance cv_Div_i (a0:AI) (a1:AI) (a2:Int) (a3:Int):CC (cv_Div a0 a1 a2 a3) Tryz.prog 98 [(.ptr 0 0),(.agg (kI.enc a0)),(.agg (kI.enc a1))] [(.live 53 [(.int .i64 a2),(.int .i64 a3)])] (fun r=>(.agg (kI.enc (⟨⟨(((r.1).Lo).M),((r.1).Lo).E⟩,⟨(((r.1).Hi).M),((r.1).Hi).E⟩⟩:AI)))) (fun r=>[(.live 53 [(.int .i64 r.2),(.int .i64 a3)])]):=cc func98 (by kernel_rfl) rfl fun E=>by
 unfold cv_Div
 refine .g 14 rfl<|.st rfl (bs kI [a0,a1] rfl rfl) rfl<|.bind fun x11 h1=>.st rfl (cl (CC.h h1) [0] [] [true] rfl (.p rfl<|.l<|.nil) (.p rfl (.i<|.i<|.nil) .nil) fnil (.cons (.v (.i<|.i<|.nil)) .nil) (.bool _) (.turned .nil) rfl) rfl<|.g 3 rfl<|?_
 refine .cd rfl (fun _ _=>?_) fun _ _=>?_
 ·refine .g 8 rfl<|.fi rfl rfl
 ·refine .g 7 rfl<|.p0 rfl rfl fun x12 _=>.g 2 rfl<|?_
  refine .cd rfl (fun _ _=>?_) fun _ _=>?_
  ·refine .g 5 rfl<|.bind fun x13 h7=>.st rfl (cl (CC.h h7) [0] [] [true] rfl (.p rfl<|.i<|.nil) (.p rfl (.i<|.i<|.nil) .nil) fnil (.cons (.v (.i<|.i<|.nil)) .nil) (.bool _) (.turned .nil) rfl) rfl<|.g 10 rfl<|.fi rfl rfl
  ·refine .g 14 rfl<|.bind fun x14 h8=>.st rfl (cl (CC.h h8) [1,0] [5] [false,false,true] rfl (.b<|.p rfl<|.nil) (.p rfl (.p rfl<|.nil) (.p rfl (.i<|.i<|.nil) .nil)) (fresh_cons rfl fnil) (.cons (.v (.p rfl<|.nil)) (.cons (.v (.i<|.i<|.nil)) (.cons (.v (.b<|.nil)) .nil))) (ren_fnL _ .nil (.p rfl<|.p rfl<|.nil)) (.kept rfl (.kept rfl (.turned .nil))) rfl) rfl<|.bind fun x15 h9=>.st rfl (cl (CC.h h9) [0,1,5] [] [true,false,false] rfl (.p rfl<|.a kI<|.a kI<|.cons (ren_fnL _ .nil (.p rfl<|.p rfl<|.nil))<|.nil) (.p rfl (.i<|.i<|.nil) (.p rfl (.p rfl<|.nil) (.p rfl (.b<|.nil) .nil))) fnil (.cons (.v (.i<|.i<|.nil)) (.cons (.v (.p rfl<|.nil)) (.cons (.v (.b<|.nil)) .nil))) (ren_sl _) (.turned (.kept rfl (.kept rfl .nil))) rfl) rfl<|.p0 rfl rfl fun x16 _=>.g 7 rfl<|.dn (by kernel_rfl)<|.g 7 rfl<|.bind fun x17 h11=>.st rfl (cl (CC.h h11) [1,0] [8] [false,false,true] rfl (.b<|.p rfl<|.nil) (.p rfl (.p rfl<|.nil) (.p rfl (.i<|.i<|.nil) .nil)) (fresh_cons rfl fnil) (.cons (.v (.p rfl<|.nil)) (.cons (.v (.i<|.i<|.nil)) (.cons (.v (.b<|.nil)) .nil))) (ren_fnL _ .nil (.p rfl<|.p rfl<|.nil)) (.kept rfl (.kept rfl (.turned .nil))) rfl) rfl<|.bind fun x18 h12=>.st rfl (cl (CC.h h12) [0,1,8] [] [true,false,false] rfl (.p rfl<|.a kI<|.a kI<|.cons (ren_fnL _ .nil (.p rfl<|.p rfl<|.nil))<|.nil) (.p rfl (.i<|.i<|.nil) (.p rfl (.p rfl<|.nil) (.p rfl (.b<|.nil) .nil))) fnil (.cons (.v (.i<|.i<|.nil)) (.cons (.v (.p rfl<|.nil)) (.cons (.v (.b<|.nil)) .nil))) (ren_sl _) (.turned (.kept rfl (.kept rfl .nil))) rfl) rfl<|.p0 rfl rfl fun x19 _=>?_
   refine .g 7 rfl<|.dn (by kernel_rfl)<|.g 6 rfl<|.bind fun x20 h14=>.st rfl (cl (CC.h h14) [0] [] [false] rfl (.p rfl<|.a kD<|.a kD<|.nil) (.p rfl (.i<|.i<|.nil) .nil) fnil (.cons (.v (.i<|.i<|.nil)) .nil) (ren_agg (K:=kI) _) (.kept rfl .nil) rfl) rfl<|.g 4 rfl<|.fi rfl rfl
instance small_in_i (a0:AI) (a1:Int) (a2:Int) (a3:Int):CC (small_in a0 a1 a2 a3) Tryz.prog 270 [(.ptr 0 0),(.agg (kI.enc a0)),(.int .i64 a1)] [(.live 53 [(.int .i64 a2),(.int .i64 a3)])] (fun r=>(.bool r.1)) (fun r=>[(.live 53 [(.int .i64 r.2),(.int .i64 a3)])]):=cc func270 (by kernel_rfl) rfl fun E=>by
 unfold small_in
 refine .g 9 rfl<|.p0 rfl rfl fun x9 _=>.g 8 rfl<|.bind fun x10 h2=>.st rfl (cl (CC.h h2) [0] [] [true] rfl (.p rfl<|.a kI<|.nil) (.p rfl (.i<|.i<|.nil) .nil) fnil (.cons (.v (.i<|.i<|.nil)) .nil) (ren_agg (K:=kI) _) (.turned .nil) rfl) rfl<|.g 8 rfl<|.bind fun x11 h3=>.st rfl (cl (CC.h h3) [0] [] [false] rfl (.p rfl<|.nil) (.p rfl (.i<|.i<|.nil) .nil) fnil (.cons (.v (.i<|.i<|.nil)) .nil) (.int _ _) (.kept rfl .nil) rfl) rfl<|.g 3 rfl<|?_
 refine .cd rfl (fun _ _=>?_) fun _ _=>?_
 ·refine .g 7 rfl<|.fi rfl rfl
 ·refine .g 7 rfl<|.p0 rfl rfl fun x12 _=>.g 2 rfl<|.p0 rfl rfl fun x13 _=>.dn (by kernel_rfl)<|.g 1 rfl<|?_
  refine .cd rfl (fun _ _=>?_) fun _ _=>?_
  ·refine .g 7 rfl<|.fi rfl rfl
  ·refine .g 6 rfl<|.bind fun x14 h10=>.st rfl (cl (CC.h h10) [0] [] [true] rfl (.p rfl<|.i<|.nil) (.p rfl (.i<|.i<|.nil) .nil) fnil (.cons (.v (.i<|.i<|.nil)) .nil) (ren_agg (K:=kI) _) (.turned .nil) rfl) rfl<|.g 1 rfl<|.bind fun x15 h11=>.st rfl (cl (CC.h h11) [0] [] [true] rfl (.p rfl<|.i<|.nil) (.p rfl (.i<|.i<|.nil) .nil) fnil (.cons (.v (.i<|.i<|.nil)) .nil) (ren_agg (K:=kI) _) (.turned .nil) rfl) rfl<|.bind fun x16 h12=>.st rfl (cl (CC.h h12) [0] [] [true] rfl (.p rfl<|.a kI<|.a kI<|.nil) (.p rfl (.i<|.i<|.nil) .nil) fnil (.cons (.v (.i<|.i<|.nil)) .nil) (ren_agg (K:=kI) _) (.turned .nil) rfl) rfl<|.g 8 rfl<|.fi rfl rfl
instance cv_Prec_i (a0:Int) (a1:Int):CC (cv_Prec a0 a1) Tryz.prog 346 [(.ptr 0 0)] [(.live 53 [(.int .i64 a0),(.int .i64 a1)])] (fun r=>(.int .i64 r)) (fun r=>[(.live 53 [(.int .i64 a0),(.int .i64 a1)])]):=cc func346 (by kernel_rfl) rfl fun E=>by
 unfold cv_Prec
 refine .g 15 rfl<|.fi rfl rfl
instance small_Terms_i (a0:Int):PC (small_Terms a0) Tryz.prog 351 [(.int .i64 a0)] (fun r=>(.int .i64 r)):=pc func351 (by kernel_rfl) rfl fun E=>by
 unfold small_Terms
 refine .g 16 rfl<|.fi rfl rfl
instance nat_Mul_i (a0:List Int) (a1:List Int):PC (nat_Mul a0 a1) Tryz.prog 181 [(slK (kInt .u32) a0),(slK (kInt .u32) a1)] (fun r=>(slK (kInt .u32) r)):=pc func181 (by kernel_rfl) rfl fun E=>by
 unfold nat_Mul
 refine .g 2 rfl<|.st rfl (as0 rfl) rfl<|.g 5 rfl<|.p0 rfl rfl fun x187 _=>.g 1 rfl<|.p0 rfl rfl fun x188 _=>.g 7 rfl<|.ln rfl rfl<|.g 1 rfl<|.ln rfl rfl<|.g 1 rfl<|.guard fun h3=>.sv (.row 0 (kInt .u32).sz 0 (((List.replicate ((IntKind.i64.wrap ((x187.length:Int)+(x188.length:Int))).toNat) (kInt .u32).z)).length)) [(0,(rwK (kInt .u32) 117 (List.replicate ((IntKind.i64.wrap ((x187.length:Int)+(x188.length:Int))).toNat) (kInt .u32).z)))] rfl (snd_makeK (kInt .u32) _ _ _ _ _ 0 _ _ _ rfl underlying22 ze117 sb117 (by decide) rfl rfl rfl rfl rfl h3) rfl<|.g 7 rfl<|?_
 refine .ln rfl rfl<|.g 3 rfl<|?_
 refine .cut (fun x:(List Int)=>(nat_Mul_j1 x,[(5,some (.row 0 (kInt .u32).sz 0 ((x).length)))],[(0,(rwK (kInt .u32) 117 x))])) ?_ ?_
 ·rintro y280
  dsimp only [nat_Mul_j1]
  refine .g 2 rfl<|?_
  refine .weak ?_ (fun a w h=>Conc.freezeK (kInt .u32) h 5 0 0 ((y280).length) 117 y280 rfl rfl (by omega))
  refine .weak ?_ (fun a w h=>take_all h)
  refine .g 2 rfl<|.p0 rfl rfl fun x281 _=>.g 4 rfl<|.fi rfl rfl
 ·intro h311
  refine .g 1 rfl<|?_
  refine .lp (fun n (x:Int × (List Int))=>nat_Mul_l2 x187 x188 n x.1 x.2) (fun x=>([eL 1 x188,(5,some (.row 0 (kInt .u32).sz 0 ((x.2).length))),eL 22 x187,eI 23 (x187.length:Int),eI 24 x.1],[(0,(rwK (kInt .u32) 117 x.2))])) (0,(List.replicate ((IntKind.i64.wrap ((x187.length:Int)+(x188.length:Int))).toNat) (kInt .u32).z)) [(0,0)] rfl ?_
  rintro n2 ⟨y342,y343⟩
  try dsimp only
  rw [nat_Mul_l2]
  refine .g 6 rfl<|?_
  refine .cd rfl (fun _ _=>?_) fun _ _=>?_
  ·refine .g 3 rfl<|?_
   refine .cut (fun x:(List Int)=>(nat_Mul_j3 (fun z0 z1=>nat_Mul_l2 x187 x188 n2 z0 z1) y342 x,[eL 1 x188,(5,some (.row 0 (kInt .u32).sz 0 ((x).length))),eL 22 x187,eI 23 (x187.length:Int),eI 24 y342],[(0,(rwK (kInt .u32) 117 x))])) ?_ ?_
   ·rintro y358
    dsimp only [nat_Mul_j3]
    refine .g 5 rfl<|.ag ((IntKind.i64.wrap (y342+1)),y358) [(0,0)] rfl
   ·intro h568
    refine .g 4 rfl<|.ix rfl rfl<|.g 14 rfl<|.ln rfl rfl<|.g 3 rfl<|?_
    refine .cut (fun x:Int × (List Int)=>(nat_Mul_j4 y342 x188 (fun z0 z1=>nat_Mul_l2 x187 x188 n2 z0 z1) x.1 x.2,[eL 1 x188,(5,some (.row 0 (kInt .u32).sz 0 ((x.2).length))),eI 6 y342,eX 8 x.1,eL 22 x187,eI 23 (x187.length:Int),eI 24 y342],[(0,(rwK (kInt .u32) 117 x.2))])) ?_ ?_
    ·rintro ⟨y365,y366⟩
     dsimp only [nat_Mul_j4]
     refine .g 5 rfl<|.ln rfl rfl<|.g 3 rfl<|.guard fun h594=>?_
     obtain ⟨h5941,h5942⟩:=h594
     refine .sv (.rptr 0 (kInt .u32).sz ((IntKind.i64.wrap (y342+(x188.length:Int))).toNat) 0) [] rfl (idx_r (snd_index_r _ _ _ _ _ 0 0 ((y366).length) _ (IntKind.i64.wrap (y342+(x188.length:Int))) rfl underlying22 si117 rfl rfl rfl rfl h5941 (by omega)) (Nat.zero_add _)) rfl<|.sm [(0,(rwK (kInt .u32) 117 ((y366).set ((IntKind.i64.wrap (y342+(x188.length:Int))).toNat) (IntKind.u32.wrap y365))))] rfl (snd_storeK_sca (kInt .u32) _ _ _ 0 ((IntKind.i64.wrap (y342+(x188.length:Int))).toNat) _ _ (IntKind.u32.wrap y365) _ rfl rfl rfl sc117 rfl rfl rfl rfl rfl rfl (by first | omega | (simp only [List.length_set]; omega))) rfl<|?_
     refine .weak ?_ (fun a w h=>Conc.relen h 5 ((((y366).set ((IntKind.i64.wrap (y342+(x188.length:Int))).toNat) (IntKind.u32.wrap y365))).length) rfl List.length_set.symm)
     refine .g 2 rfl<|.jw (h568 ((y366).set ((IntKind.i64.wrap (y342+(x188.length:Int))).toNat) (IntKind.u32.wrap y365))) [(0,0)] rfl
    ·intro h595
     refine .g 1 rfl<|?_
     refine .lp (fun n (x:Int × Int × (List Int))=>nat_Mul_l5 x188 y342 x187 (fun z0 z1=>nat_Mul_l2 x187 x188 n2 z0 z1) n x.1 x.2.1 x.2.2) (fun x=>([eL 1 x188,(5,some (.row 0 (kInt .u32).sz 0 ((x.2.2).length))),eI 6 y342,eW 7 (x187.getD y342.toNat (kInt .u32).z),eX 8 x.1,eL 22 x187,eI 23 (x187.length:Int),eI 24 y342,eL 29 x188,eI 30 (x188.length:Int),eI 31 x.2.1],[(0,(rwK (kInt .u32) 117 x.2.2))])) (0,0,y343) [(0,0)] rfl ?_
     rintro n5 ⟨y370,y371,y372⟩
     try dsimp only
     rw [nat_Mul_l5]
     refine .g 6 rfl<|?_
     refine .cd rfl (fun _ _=>?_) fun _ _=>?_
     ·refine .g 7 rfl<|.ix rfl rfl<|.g 16 rfl<|.guard fun h618=>?_
      obtain ⟨h6181,h6182⟩:=h618
      refine .sv (.rptr 0 (kInt .u32).sz ((IntKind.i64.wrap (y342+y371)).toNat) 0) [] rfl (idx_r (snd_index_r _ _ _ _ _ 0 0 ((y372).length) _ (IntKind.i64.wrap (y342+y371)) rfl underlying22 si117 rfl rfl rfl rfl h6181 (by omega)) (Nat.zero_add _)) rfl<|.sv (.int .u32 ((y372).getD ((IntKind.i64.wrap (y342+y371)).toNat) (kInt .u32).z)) [] rfl (snd_loadK_sca (kInt .u32) _ _ 0 ((IntKind.i64.wrap (y342+y371)).toNat) 0 _ _ rfl sc117 rfl rfl rfl rfl (by first | omega | (simp only [List.length_set]; omega)) (by decide)) rfl<|.g 16 rfl<|.guard fun h619=>?_
      obtain ⟨h6191,h6192⟩:=h619
      refine .sv (.rptr 0 (kInt .u32).sz ((IntKind.i64.wrap (y342+y371)).toNat) 0) [] rfl (idx_r (snd_index_r _ _ _ _ _ 0 0 ((y372).length) _ (IntKind.i64.wrap (y342+y371)) rfl underlying22 si117 rfl rfl rfl rfl h6191 (by omega)) (Nat.zero_add _)) rfl<|.sm [(0,(rwK (kInt .u32) 117 ((y372).set ((IntKind.i64.wrap (y342+y371)).toNat) (IntKind.u32.wrap (IntKind.u64.wrap ((IntKind.u64.wrap ((IntKind.u64.wrap ((IntKind.u64.wrap (x187.getD y342.toNat (kInt .u32).z))*(IntKind.u64.wrap (x188.getD y371.toNat (kInt .u32).z))))+(IntKind.u64.wrap ((y372).getD ((IntKind.i64.wrap (y342+y371)).toNat) (kInt .u32).z))))+y370))))))] rfl (snd_storeK_sca (kInt .u32) _ _ _ 0 ((IntKind.i64.wrap (y342+y371)).toNat) _ _ (IntKind.u32.wrap (IntKind.u64.wrap ((IntKind.u64.wrap ((IntKind.u64.wrap ((IntKind.u64.wrap (x187.getD y342.toNat (kInt .u32).z))*(IntKind.u64.wrap (x188.getD y371.toNat (kInt .u32).z))))+(IntKind.u64.wrap ((y372).getD ((IntKind.i64.wrap (y342+y371)).toNat) (kInt .u32).z))))+y370))) _ rfl rfl rfl sc117 rfl rfl rfl rfl rfl rfl (by first | omega | (simp only [List.length_set]; omega))) rfl<|?_
      refine .weak ?_ (fun a w h=>Conc.relen h 5 ((((y372).set ((IntKind.i64.wrap (y342+y371)).toNat) (IntKind.u32.wrap (IntKind.u64.wrap ((IntKind.u64.wrap ((IntKind.u64.wrap ((IntKind.u64.wrap (x187.getD y342.toNat (kInt .u32).z))*(IntKind.u64.wrap (x188.getD y371.toNat (kInt .u32).z))))+(IntKind.u64.wrap ((y372).getD ((IntKind.i64.wrap (y342+y371)).toNat) (kInt .u32).z))))+y370))))).length) rfl List.length_set.symm)
      refine .g 8 rfl<|.ag ((shrI .u64 (IntKind.u64.wrap ((IntKind.u64.wrap ((IntKind.u64.wrap ((IntKind.u64.wrap (x187.getD y342.toNat (kInt .u32).z))*(IntKind.u64.wrap (x188.getD y371.toNat (kInt .u32).z))))+(IntKind.u64.wrap ((y372).getD ((IntKind.i64.wrap (y342+y371)).toNat) (kInt .u32).z))))+y370)) 32),(IntKind.i64.wrap (y371+1)),((y372).set ((IntKind.i64.wrap (y342+y371)).toNat) (IntKind.u32.wrap (IntKind.u64.wrap ((IntKind.u64.wrap ((IntKind.u64.wrap ((IntKind.u64.wrap (x187.getD y342.toNat (kInt .u32).z))*(IntKind.u64.wrap (x188.getD y371.toNat (kInt .u32).z))))+(IntKind.u64.wrap ((y372).getD ((IntKind.i64.wrap (y342+y371)).toNat) (kInt .u32).z))))+y370))))) [(0,0)] rfl
     ·refine .g 4 rfl<|.jw (h595 (y370,y372)) [(0,0)] rfl
  ·refine .g 4 rfl<|.jw (h311 y343) [(0,0)] rfl
instance dyad_Mul_i (a0:AD) (a1:AD):PC (dyad_Mul a0 a1) Tryz.prog 86 [(.agg (kD.enc a0)),(.agg (kD.enc a1))] (fun r=>(.tup [(.agg (kD.enc (⟨((r.1).M),(r.1).E⟩:AD))),(.int .i64 r.2)])):=pc func86 (by kernel_rfl) rfl fun E=>by
 unfold dyad_Mul
 refine .g 21 rfl<|.st rfl (bs kD [a0,a1] rfl rfl) rfl<|.bind fun x10 h1=>.st rfl (cl (CC.h h1) [3] [] [true] rfl (.p rfl<|.l<|.nil) (.p rfl (.i<|.b<|.l<|.i<|.nil) .nil) fnil (.cons (.v (.i<|.b<|.l<|.i<|.nil)) .nil) (.bool _) (.turned .nil) rfl) rfl<|.g 2 rfl<|?_
 refine .cut (fun x:Bool × (List Int) × Int=>(dyad_Mul_j1 x10 x.1 x.2.1 x.2.2,[eP 4 2,eP 6 3],[(2,(.live 26 [(.bool false),(slK (kInt .u32) []),(.int .i64 0)])),(3,(.live 174 [(.int .i64 x10.2),(.bool x.1),(slK (kInt .u32) x.2.1),(.int .i64 x.2.2)]))])) ?_ ?_
 ·rintro ⟨y13,y14,y15⟩
  dsimp only [dyad_Mul_j1]
  refine .g 4 rfl<|.bind fun x16 h6=>.st rfl (cl (CC.h h6) [3] [] [true] rfl (.p rfl<|.nil) (.p rfl (.i<|.b<|.l<|.i<|.nil) .nil) fnil (.cons (.v (.i<|.b<|.l<|.i<|.nil)) .nil) (ren_tupL (.a kD<|.i<|.nil)) (.turned .nil) rfl) rfl<|.g 7 rfl<|.fi rfl rfl
 ·intro h7
  refine .cd rfl (fun _ _=>?_) fun _ _=>?_
  ·refine .g 15 rfl<|.p0 rfl rfl fun x17 _=>.g 5 rfl<|.p0 rfl rfl fun x18 _=>.g 3 rfl<|.dn (by kernel_rfl)<|.jw (h7 (((x18).M).Neg,((x18).M).Mag,(x18).E)) [(2,2),(3,3)] rfl
  ·refine .g 1 rfl<|.jw (h7 (false,[],0)) [(2,2),(3,3)] rfl
end Go.Proofs.YtoakhpdeadglpaaGreat.Gen
