/- Printed by geng.py: a call does what the plain function says. -/
import Derived.Test.YtoakhpdeadglpaaGreatFunNamesGenP0
set_option linter.unusedVariables false
set_option linter.unusedSimpArgs false
set_option maxRecDepth 4000
set_option synthInstance.maxSize 4000
set_option synthInstance.maxHeartbeats 400000
namespace Go.Proofs.YtoakhpdeadglpaaGreat.Gen
open Go Go.Abs Go.Proofs Go.Proofs.Tryz
instance nat_Shr_i (a0:List Int) (a1:Int):PC (nat_Shr a0 a1) Tryz.prog 227 [(slK (kInt .u32) a0),(.int .i64 a1)] (fun r=>(slK (kInt .u32) r)):=pc func227 (by kernel_rfl) rfl fun E=>by
 unfold nat_Shr
 refine .g 2 rfl<|.st rfl (as0 rfl) rfl<|.g 5 rfl<|.p0 rfl rfl fun x25 _=>.g 10 rfl<|?_
 refine .cd rfl (fun _ _=>?_) fun _ _=>?_
 ·refine .g 3 rfl<|.p0 rfl rfl fun x26 _=>.g 5 rfl<|.fi rfl rfl
 ·refine .g 8 rfl<|.ln rfl rfl<|.g 3 rfl<|?_
  refine .cd rfl (fun _ _=>?_) fun _ _=>?_
  ·refine .g 2 rfl<|.st rfl (as0 rfl) rfl<|.g 4 rfl<|.fi rfl rfl
  ·refine .g 7 rfl<|.guard fun h7=>.sv (slK (kInt .u32) ((x25.take x25.length).drop ((IntKind.i64.wrap (a1.tdiv 32)).toNat))) [] rfl (snd_sliceK (kInt .u32) _ _ _ _ _ _ (IntKind.i64.wrap (a1.tdiv 32)) (x25.length:Int) rfl underlying22 si117 rfl rfl rfl rfl rfl h7) rfl<|.g 6 rfl<|.ln rfl rfl<|.guard fun h8=>.sv (.row 0 (kInt .u32).sz 0 (((List.replicate (((x25.take x25.length).drop ((IntKind.i64.wrap (a1.tdiv 32)).toNat)).length) (kInt .u32).z)).length)) [(0,(rwK (kInt .u32) 117 (List.replicate (((x25.take x25.length).drop ((IntKind.i64.wrap (a1.tdiv 32)).toNat)).length) (kInt .u32).z)))] rfl (snd_makeK (kInt .u32) _ _ _ _ _ 0 _ _ _ rfl underlying22 ze117 sb117 (by decide) rfl rfl rfl rfl rfl h8) rfl<|.g 7 rfl<|.ln rfl rfl<|.g 3 rfl<|?_
   refine .cut (fun x:(List Int)=>(nat_Shr_j1 x,[(5,some (.row 0 (kInt .u32).sz 0 ((x).length)))],[(0,(rwK (kInt .u32) 117 x))])) ?_ ?_
   ·rintro y37
    dsimp only [nat_Shr_j1]
    refine .g 2 rfl<|?_
    refine .weak ?_ (fun a w h=>Conc.freezeK (kInt .u32) h 5 0 0 ((y37).length) 117 y37 rfl rfl (by omega))
    refine .weak ?_ (fun a w h=>take_all h)
    refine .g 2 rfl<|.p0 rfl rfl fun x38 _=>.g 4 rfl<|.fi rfl rfl
   ·intro h70
    refine .g 1 rfl<|?_
    refine .lp (fun n (x:Int × (List Int))=>nat_Shr_l2 x25 a1 n x.1 x.2) (fun x=>([eL 0 ((x25.take x25.length).drop ((IntKind.i64.wrap (a1.tdiv 32)).toNat)),eI 1 a1,(5,some (.row 0 (kInt .u32).sz 0 ((x.2).length))),eI 27 (((x25.take x25.length).drop ((IntKind.i64.wrap (a1.tdiv 32)).toNat)).length:Int),eI 28 x.1],[(0,(rwK (kInt .u32) 117 x.2))])) (0,(List.replicate (((x25.take x25.length).drop ((IntKind.i64.wrap (a1.tdiv 32)).toNat)).length) (kInt .u32).z)) [(0,0)] rfl ?_
    rintro n2 ⟨y45,y46⟩
    try dsimp only
    rw [nat_Shr_l2]
    refine .g 6 rfl<|?_
    refine .cd rfl (fun _ _=>?_) fun _ _=>?_
    ·refine .g 14 rfl<|.ix rfl rfl<|.g 11 rfl<|.ln rfl rfl<|.g 3 rfl<|?_
     refine .cut (fun x:Int=>(nat_Shr_j3 a1 y45 y46 (fun z0 z1=>nat_Shr_l2 x25 a1 n2 z0 z1) x,[eL 0 ((x25.take x25.length).drop ((IntKind.i64.wrap (a1.tdiv 32)).toNat)),eI 1 a1,(5,some (.row 0 (kInt .u32).sz 0 ((y46).length))),eI 6 y45,eX 7 x,eI 27 (((x25.take x25.length).drop ((IntKind.i64.wrap (a1.tdiv 32)).toNat)).length:Int),eI 28 y45],[(0,(rwK (kInt .u32) 117 y46))])) ?_ ?_
     ·rintro y48
      dsimp only [nat_Shr_j3]
      refine .g 7 rfl<|.guard fun h126=>.st rfl (snd_shr _ _ _ _ _ _ _ _ rfl rfl rfl rfl rfl h126) rfl<|.g 1 rfl<|.guard fun h127=>?_
      obtain ⟨h1271,h1272⟩:=h127
      refine .sv (.rptr 0 (kInt .u32).sz y45.toNat 0) [] rfl (idx_r (snd_index_r _ _ _ _ _ 0 0 ((y46).length) _ y45 rfl underlying22 si117 rfl rfl rfl rfl h1271 (by omega)) (Nat.zero_add _)) rfl<|.sm [(0,(rwK (kInt .u32) 117 ((y46).set y45.toNat (IntKind.u32.wrap (shrI .u64 y48 (a1.tmod 32))))))] rfl (snd_storeK_sca (kInt .u32) _ _ _ 0 y45.toNat _ _ (IntKind.u32.wrap (shrI .u64 y48 (a1.tmod 32))) _ rfl rfl rfl sc117 rfl rfl rfl rfl rfl rfl (by first | omega | (simp only [List.length_set]; omega))) rfl<|?_
      refine .weak ?_ (fun a w h=>Conc.relen h 5 ((((y46).set y45.toNat (IntKind.u32.wrap (shrI .u64 y48 (a1.tmod 32))))).length) rfl List.length_set.symm)
      refine .g 7 rfl<|.ag ((IntKind.i64.wrap (y45+1)),((y46).set y45.toNat (IntKind.u32.wrap (shrI .u64 y48 (a1.tmod 32))))) [(0,0)] rfl
     ·intro h128
      refine .cd rfl (fun _ _=>?_) fun _ _=>?_
      ·refine .g 5 rfl<|.ix rfl rfl<|.g 6 rfl<|.jw (h128 (orI .u64 (IntKind.u64.wrap (((x25.take x25.length).drop ((IntKind.i64.wrap (a1.tdiv 32)).toNat)).getD y45.toNat (kInt .u32).z)) (shlI .u64 (IntKind.u64.wrap (((x25.take x25.length).drop ((IntKind.i64.wrap (a1.tdiv 32)).toNat)).getD ((IntKind.i64.wrap (y45+1)).toNat) (kInt .u32).z)) 32))) [(0,0)] rfl
      ·refine .g 1 rfl<|.jw (h128 (IntKind.u64.wrap (((x25.take x25.length).drop ((IntKind.i64.wrap (a1.tdiv 32)).toNat)).getD y45.toNat (kInt .u32).z))) [(0,0)] rfl
    ·refine .g 4 rfl<|.jw (h70 y46) [(0,0)] rfl
instance dyad_norm_i (a0:Bool) (a1:List Int) (a2:Int):PC (dyad_norm a0 a1 a2) Tryz.prog 138 [(.bool a0),(slK (kInt .u32) a1),(.int .i64 a2)] (fun r=>(.agg (kD.enc (⟨((r).M),(r).E⟩:AD)))):=pc func138 (by kernel_rfl) rfl fun E=>by
 unfold dyad_norm
 refine .g 8 rfl<|.p0 rfl rfl fun x20 _=>.g 7 rfl<|.ln rfl rfl<|.g 3 rfl<|?_
 refine .cd rfl (fun _ _=>?_) fun _ _=>?_
 ·refine .g 8 rfl<|.fi rfl rfl
 ·refine .g 8 rfl<|?_
  refine .cut (fun x:Int=>(dyad_norm_j1 x20 a0 a2 x,[eB 0 a0,eL 1 x20,eI 2 a2,eP 6 0,eI 7 x],[(0,(.live 26 [(.bool false),(slK (kInt .u32) []),(.int .i64 0)]))])) ?_ ?_
  ·rintro y23
   dsimp only [dyad_norm_j1]
   refine .g 2 rfl<|?_
   refine .cut (fun x:Int=>(dyad_norm_j2 x20 a0 a2 x,[eB 0 a0,eL 1 x20,eI 2 a2,eP 6 0,eI 7 x],[(0,(.live 26 [(.bool false),(slK (kInt .u32) []),(.int .i64 0)]))])) ?_ ?_
   ·rintro y29
    dsimp only [dyad_norm_j2]
    refine .g 6 rfl<|.p0 rfl rfl fun x30 _=>.p0 rfl rfl fun x31 _=>.g 8 rfl<|.fi rfl rfl
   ·intro h24
    refine .g 1 rfl<|?_
    refine .lp (fun n (x:Int)=>dyad_norm_l3 x20 a0 a2 n x) (fun x=>([eB 0 a0,eL 1 x20,eI 2 a2,eP 6 0,eI 7 x],[(0,(.live 26 [(.bool false),(slK (kInt .u32) []),(.int .i64 0)]))])) y23 [(0,0)] rfl ?_
    rintro n3 y35
    try dsimp only
    rw [dyad_norm_l3]
    refine .g 5 rfl<|.p0 rfl rfl fun x36 _=>.g 3 rfl<|?_
    refine .cd rfl (fun _ _=>?_) fun _ _=>?_
    ·refine .g 9 rfl<|.ag (IntKind.i64.wrap (y35+1)) [(0,0)] rfl
    ·refine .g 4 rfl<|.jw (h24 y35) [(0,0)] rfl
  ·intro h34
   refine .g 1 rfl<|?_
   refine .lp (fun n (x:Int)=>dyad_norm_l4 x20 a0 a2 n x) (fun x=>([eB 0 a0,eL 1 x20,eI 2 a2,eP 6 0,eI 7 x],[(0,(.live 26 [(.bool false),(slK (kInt .u32) []),(.int .i64 0)]))])) 0 [(0,0)] rfl ?_
   rintro n4 y38
   try dsimp only
   rw [dyad_norm_l4]
   refine .g 6 rfl<|.ix rfl rfl<|.g 4 rfl<|?_
   refine .cd rfl (fun _ _=>?_) fun _ _=>?_
   ·refine .g 9 rfl<|.ag (IntKind.i64.wrap (y38+32)) [(0,0)] rfl
   ·refine .g 4 rfl<|.jw (h34 y38) [(0,0)] rfl
instance dyad_sum_i (a0:AD) (a1:AD):PC (dyad_sum a0 a1) Tryz.prog 82 [(.agg (kD.enc a0)),(.agg (kD.enc a1))] (fun r=>(.agg (kD.enc (⟨((r).M),(r).E⟩:AD)))):=pc func82 (by kernel_rfl) rfl fun E=>by
 unfold dyad_sum
 refine .g 12 rfl<|.p0 rfl rfl fun x28 _=>.g 3 rfl<|?_
 refine .cd rfl (fun _ _=>?_) fun _ _=>?_
 ·refine .g 9 rfl<|.fi rfl rfl
 ·refine .g 3 rfl<|.p0 rfl rfl fun x29 _=>.g 3 rfl<|?_
  refine .cd rfl (fun _ _=>?_) fun _ _=>?_
  ·refine .g 9 rfl<|.fi rfl rfl
  ·refine .g 10 rfl<|?_
   refine .cut (fun x:Bool × (List Int) × Int × Bool × (List Int) × Int=>(dyad_sum_j1 x.1 x.2.1 x.2.2.1 x.2.2.2.1 x.2.2.2.2.1 x.2.2.2.2.2,[eP 2 0,eP 3 1,eP 4 2],[(0,(.live 26 [(.bool x.1),(slK (kInt .u32) x.2.1),(.int .i64 x.2.2.1)])),(1,(.live 26 [(.bool x.2.2.2.1),(slK (kInt .u32) x.2.2.2.2.1),(.int .i64 x.2.2.2.2.2)])),(2,(.live 26 [(.bool false),(slK (kInt .u32) []),(.int .i64 0)]))])) ?_ ?_
   ·rintro ⟨y30,y31,y32,y33,y34,y35⟩
    dsimp only [dyad_sum_j1]
    refine .g 15 rfl<|.p0 rfl rfl fun x36 _=>.g 3 rfl<|.p0 rfl rfl fun x37 _=>.g 2 rfl<|.dn (by kernel_rfl)<|.g 9 rfl<|.p0 rfl rfl fun x38 _=>.g 4 rfl<|.fi rfl rfl
   ·intro h22
    refine .cd rfl (fun _ _=>?_) fun _ _=>?_
    ·refine .g 6 rfl<|.jw (h22 (a1.M.Neg,a1.M.Mag,a1.E,a0.M.Neg,a0.M.Mag,a0.E)) [(0,0),(1,1),(2,2)] rfl
    ·refine .g 1 rfl<|.jw (h22 (a0.M.Neg,a0.M.Mag,a0.E,a1.M.Neg,a1.M.Mag,a1.E)) [(0,0),(1,1),(2,2)] rfl
instance dyad_Cmp_i (a0:AD) (a1:AD):PC (dyad_Cmp a0 a1) Tryz.prog 30 [(.agg (kD.enc a0)),(.agg (kD.enc a1))] (fun r=>(.int .i64 r)):=pc func30 (by kernel_rfl) rfl fun E=>by
 unfold dyad_Cmp
 refine .g 9 rfl<|?_
 refine .cut (fun x:Bool=>(dyad_Cmp_j1 a0 a1 x,[eP 2 0,eP 3 1,eB 14 x],[(0,(.live 26 [(.bool a0.M.Neg),(slK (kInt .u32) a0.M.Mag),(.int .i64 a0.E)])),(1,(.live 26 [(.bool a1.M.Neg),(slK (kInt .u32) a1.M.Mag),(.int .i64 a1.E)]))])) ?_ ?_
 ·rintro y19
  dsimp only [dyad_Cmp_j1]
  refine .g 1 rfl<|?_
  refine .cd rfl (fun _ _=>?_) fun _ _=>?_
  ·refine .g 7 rfl<|.fi rfl rfl
  ·refine .g 4 rfl<|?_
   refine .cut (fun x:Bool=>(dyad_Cmp_j2 a0 a1 x,[eP 2 0,eP 3 1,eB 29 x],[(0,(.live 26 [(.bool a0.M.Neg),(slK (kInt .u32) a0.M.Mag),(.int .i64 a0.E)])),(1,(.live 26 [(.bool a1.M.Neg),(slK (kInt .u32) a1.M.Mag),(.int .i64 a1.E)]))])) ?_ ?_
   ·rintro y22
    dsimp only [dyad_Cmp_j2]
    refine .g 1 rfl<|?_
    refine .cd rfl (fun _ _=>?_) fun _ _=>?_
    ·refine .g 6 rfl<|.p0 rfl rfl fun x23 _=>.g 5 rfl<|.fi rfl rfl
    ·refine .g 6 rfl<|.p0 rfl rfl fun x24 _=>.g 1 rfl<|.p0 rfl rfl fun x25 _=>.g 2 rfl<|.dn (by kernel_rfl)<|.g 8 rfl<|?_
     refine .cd rfl (fun _ _=>?_) fun _ _=>?_
     ·refine .g 12 rfl<|?_
      refine .cd rfl (fun _ _=>?_) fun _ _=>?_
      ·refine .g 8 rfl<|.fi rfl rfl
      ·refine .g 9 rfl<|.fi rfl rfl
     ·refine .g 6 rfl<|.p0 rfl rfl fun x26 _=>.p0 rfl rfl fun x27 _=>.sv (.agg (kN.enc ((x27).M))) [] rfl (snd_field_agg _ _ _ _ _ _ _ _ _ rfl underlying26 rfl rfl rfl ag24 rfl rfl rfl (Nat.le_of_ble_eq_true rfl)) rfl<|.g 1 rfl<|.p0 rfl rfl fun x28 _=>.g 1 rfl<|.dn (by kernel_rfl)<|.g 2 rfl<|.fi rfl rfl
   ·intro h22
    refine .g 9 rfl<|?_
    refine .gd 22 rfl (fun _=>?_) fun _=>?_
    ·refine .g 8 rfl<|.jw (h22 true) [(0,0),(1,1)] rfl
    ·refine .g 1 rfl<|.p0 rfl rfl fun x29 _=>.g 2 rfl<|?_
     refine .gd 26 rfl (fun _=>?_) fun _=>?_
     ·refine .g 4 rfl<|.jw (h22 true) [(0,0),(1,1)] rfl
     ·refine .g 1 rfl<|.p0 rfl rfl fun x30 _=>.g 2 rfl<|.jw (h22 x30) [(0,0),(1,1)] rfl
 ·intro h27
  refine .g 2 rfl<|.p0 rfl rfl fun x31 _=>.g 2 rfl<|?_
  refine .gd 10 rfl (fun _=>?_) fun _=>?_
  ·refine .g 5 rfl<|.jw (h27 true) [(0,0),(1,1)] rfl
  ·refine .g 1 rfl<|.p0 rfl rfl fun x32 _=>.g 3 rfl<|.jw (h27 (!x32)) [(0,0),(1,1)] rfl
instance nat_From_i (a0:Int):PC (nat_From a0) Tryz.prog 222 [(.int .u64 a0)] (fun r=>(slK (kInt .u32) r)):=pc func222 (by kernel_rfl) rfl fun E=>by
 unfold nat_From
 refine .g 2 rfl<|.st rfl (as0 rfl) rfl<|.g 9 rfl<|.st rfl (bs (kInt .u32) [(IntKind.u32.wrap a0),(IntKind.u32.wrap (shrI .u64 a0 32))] rfl rfl) rfl<|.p0 rfl rfl fun x2 _=>.g 4 rfl<|.fi rfl rfl
instance zint_From_i (a0:Int):PC (zint_From a0) Tryz.prog 132 [(.int .i64 a0)] (fun r=>(.agg (kN.enc (r)))):=pc func132 (by kernel_rfl) rfl fun E=>by
 unfold zint_From
 refine .g 19 rfl<|?_
 refine .cut (fun x:Int=>(zint_From_j1 a0 x,[eI 0 a0,eP 2 0,eX 3 x],[(0,(.live 24 [(.bool false),(slK (kInt .u32) [])]))])) ?_ ?_
 ·rintro y4
  dsimp only [zint_From_j1]
  refine .g 6 rfl<|.p0 rfl rfl fun x5 _=>.p0 rfl rfl fun x6 _=>.g 4 rfl<|.fi rfl rfl
 ·intro h5
  refine .cd rfl (fun _ _=>?_) fun _ _=>?_
  ·refine .g 5 rfl<|.jw (h5 (IntKind.u64.wrap (0-(IntKind.u64.wrap a0)))) [(0,0)] rfl
  ·refine .g 1 rfl<|.jw (h5 (IntKind.u64.wrap a0)) [(0,0)] rfl
instance dyad_From_i (a0:Int):PC (dyad_From a0) Tryz.prog 53 [(.int .i64 a0)] (fun r=>(.agg (kD.enc (⟨((r).M),(r).E⟩:AD)))):=pc func53 (by kernel_rfl) rfl fun E=>by
 unfold dyad_From
 refine .g 8 rfl<|.p0 rfl rfl fun x3 _=>.g 10 rfl<|.p0 rfl rfl fun x4 _=>.g 4 rfl<|.fi rfl rfl
instance dyad_inRange_i (a0:AD):PC (dyad_inRange a0) Tryz.prog 176 [(.agg (kD.enc a0))] (fun r=>(.bool r)):=pc func176 (by kernel_rfl) rfl fun E=>by
 unfold dyad_inRange
 refine .g 7 rfl<|?_
 refine .cut (fun x:Bool=>(dyad_inRange_j1 x,[eB 2 x],[])) ?_ ?_
 ·rintro y17
  dsimp only [dyad_inRange_j1]
  refine .g 2 rfl<|.fi rfl rfl
 ·intro h9
  refine .g 2 rfl<|.p0 rfl rfl fun x18 _=>.g 1 rfl<|?_
  refine .gd 5 rfl (fun _=>?_) fun _=>?_
  ·refine .g 18 rfl<|.jw (h9 true) [] rfl
  ·refine .g 1 rfl<|.p0 rfl rfl fun x19 _=>.p0 rfl rfl fun x20 _=>.g 1 rfl<|?_
   refine .gd 9 rfl (fun _=>?_) fun _=>?_
   ·refine .g 2 rfl<|.p0 rfl rfl fun x21 _=>.g 2 rfl<|?_
    refine .gd 14 rfl (fun _=>?_) fun _=>?_
    ·refine .g 3 rfl<|.p0 rfl rfl fun x22 _=>.g 5 rfl<|.jw (h9 (decide (x22≤262144))) [] rfl
    ·refine .g 9 rfl<|.jw (h9 false) [] rfl
   ·refine .g 14 rfl<|.jw (h9 false) [] rfl
instance dyad_Make_i (a0:ApiInt) (a1:Int):PC (dyad_Make a0 a1) Tryz.prog 83 [(.agg (kN.enc a0)),(.int .i64 a1)] (fun r=>(.tup [(.agg (kD.enc (⟨((r.1).M),(r.1).E⟩:AD))),(.bool r.2)])):=pc func83 (by kernel_rfl) rfl fun E=>by
 unfold dyad_Make
 refine .g 11 rfl<|.p0 rfl rfl fun x4 _=>.g 3 rfl<|?_
 refine .cd rfl (fun _ _=>?_) fun _ _=>?_
 ·refine .g 9 rfl<|.fi rfl rfl
 ·refine .g 9 rfl<|.p0 rfl rfl fun x5 _=>.g 8 rfl<|.p0 rfl rfl fun x6 _=>.g 3 rfl<|?_
  refine .cd rfl (fun _ _=>?_) fun _ _=>?_
  ·refine .g 9 rfl<|.fi rfl rfl
  ·refine .g 10 rfl<|.fi rfl rfl
instance dyad_Half_i (a0:Int):PC (dyad_Half a0) Tryz.prog 50 [(.int .i64 a0)] (fun r=>(.agg (kD.enc (⟨((r).M),(r).E⟩:AD)))):=pc func50 (by kernel_rfl) rfl fun E=>by
 unfold dyad_Half
 refine .g 7 rfl<|.p0 rfl rfl fun x3 _=>.g 1 rfl<|.p0 rfl rfl fun x4 _=>.g 15 rfl<|.fi rfl rfl
instance fun_function_at_0140_i (a0:Bool) (a1:Int) (a2:Int) (a3:Int) (a4:Bool) (a5:ByteArray) (a6:AD):PC (fun_function_at_0140 a0 a1 a2 a3 a4 a5 a6) Tryz.prog 69 [(.agg [(.bool a0),(.int .i64 a1),(.int .i64 a2),(.int .i64 a3),(.bool a4),(.str a5),.anyf]),(.agg (kD.enc a6))] (fun r=>(.int .i64 r)):=pc func69 (by kernel_rfl) rfl fun E=>by
 unfold fun_function_at_0140
 refine .g 10 rfl<|.p0 rfl rfl fun x38 _=>.g 10 rfl<|?_
 refine .cut (fun x:Bool=>(fun_function_at_0140_j1 a1 x38 a2 a6 a3 x,[eP 2 0,eP 3 1,eI 5 x38.1,eB 6 x38.2,eB 12 x],[(0,(.live 107 [(.bool a0),(.int .i64 a1),(.int .i64 a2),(.int .i64 a3),(.bool a4),(.str a5),.anyf])),(1,(.live 26 [(.bool a6.M.Neg),(slK (kInt .u32) a6.M.Mag),(.int .i64 a6.E)]))])) ?_ ?_
 ·rintro y58
  dsimp only [fun_function_at_0140_j1]
  refine .g 1 rfl<|?_
  refine .cd rfl (fun _ _=>?_) fun _ _=>?_
  ·refine .g 8 rfl<|.fi rfl rfl
  ·refine .g 1 rfl<|?_
   refine .cut (fun x:Bool=>(fun_function_at_0140_j2 a2 a6 a3 x,[eP 2 0,eP 3 1,eB 22 x],[(0,(.live 107 [(.bool a0),(.int .i64 a1),(.int .i64 a2),(.int .i64 a3),(.bool a4),(.str a5),.anyf])),(1,(.live 26 [(.bool a6.M.Neg),(slK (kInt .u32) a6.M.Mag),(.int .i64 a6.E)]))])) ?_ ?_
   ·rintro y59
    dsimp only [fun_function_at_0140_j2]
    refine .g 1 rfl<|?_
    refine .cd rfl (fun _ _=>?_) fun _ _=>?_
    ·refine .g 8 rfl<|.fi rfl rfl
    ·refine .g 1 rfl<|?_
     refine .cut (fun x:Bool=>(fun_function_at_0140_j3 a3 a6 x,[eP 2 0,eP 3 1,eB 37 x],[(0,(.live 107 [(.bool a0),(.int .i64 a1),(.int .i64 a2),(.int .i64 a3),(.bool a4),(.str a5),.anyf])),(1,(.live 26 [(.bool a6.M.Neg),(slK (kInt .u32) a6.M.Mag),(.int .i64 a6.E)]))])) ?_ ?_
     ·rintro y64
      dsimp only [fun_function_at_0140_j3]
      refine .g 1 rfl<|?_
      refine .cd rfl (fun _ _=>?_) fun _ _=>?_
      ·refine .g 8 rfl<|.fi rfl rfl
      ·refine .g 1 rfl<|?_
       refine .cut (fun x:Bool=>(fun_function_at_0140_j4 x,[eB 61 x],[])) ?_ ?_
       ·rintro y67
        dsimp only [fun_function_at_0140_j4]
        refine .g 1 rfl<|?_
        refine .cd rfl (fun _ _=>?_) fun _ _=>?_
        ·refine .g 8 rfl<|.fi rfl rfl
        ·refine .g 9 rfl<|.fi rfl rfl
       ·intro h57
        refine .g 6 rfl<|?_
        refine .gd 66 rfl (fun _=>?_) fun _=>?_
        ·refine .g 5 rfl<|.p0 rfl rfl fun x68 _=>.p0 rfl rfl fun x69 _=>.g 3 rfl<|.dn (by kernel_rfl)<|.jw (h57 (decide (x69<0))) [] rfl
        ·refine .g 10 rfl<|.dn (by kernel_rfl)<|.jw (h57 false) [] rfl
     ·intro h61
      refine .g 6 rfl<|?_
      refine .gd 42 rfl (fun _=>?_) fun _=>?_
      ·refine .g 4 rfl<|.p0 rfl rfl fun x70 _=>.p0 rfl rfl fun x71 _=>.g 2 rfl<|?_
       refine .gd 50 rfl (fun _=>?_) fun _=>?_
       ·refine .g 11 rfl<|.dn (by kernel_rfl)<|.jw (h61 true) [(0,0),(1,1)] rfl
       ·refine .g 5 rfl<|.p0 rfl rfl fun x72 _=>.p0 rfl rfl fun x73 _=>.g 4 rfl<|.dn (by kernel_rfl)<|.jw (h61 (decide (x73<0))) [(0,0),(1,1)] rfl
      ·refine .g 19 rfl<|.dn (by kernel_rfl)<|.jw (h61 false) [(0,0),(1,1)] rfl
   ·intro h68
    refine .g 6 rfl<|?_
    refine .gd 27 rfl (fun _=>?_) fun _=>?_
    ·refine .g 3 rfl<|?_
     refine .gd 30 rfl (fun _=>?_) fun _=>?_
     ·refine .g 8 rfl<|.jw (h68 (decide (x38.1>a1))) [(0,0),(1,1)] rfl
     ·refine .g 8 rfl<|.jw (h68 false) [(0,0),(1,1)] rfl
    ·refine .g 11 rfl<|.jw (h68 false) [(0,0),(1,1)] rfl
 ·intro h71
  refine .g 5 rfl<|?_
  refine .gd 16 rfl (fun _=>?_) fun _=>?_
  ·refine .g 2 rfl<|.p0 rfl rfl fun x74 _=>.g 4 rfl<|.jw (h71 (decide (x74≤0))) [(0,0),(1,1)] rfl
  ·refine .g 7 rfl<|.jw (h71 false) [(0,0),(1,1)] rfl
instance fun_Fits_i (a0:Int) (a1:Int) (a2:AD) (a3:Int):PC (fun_Fits a0 a1 a2 a3) Tryz.prog 22 [(.int .i64 a0),(.int .i64 a1),(.agg (kD.enc a2)),(.int .i64 a3)] (fun r=>(.int .i64 r)):=pc func22 (by kernel_rfl) rfl fun E=>by
 unfold fun_Fits
 refine .g 11 rfl<|.p0 rfl rfl fun x4 _=>.g 10 rfl<|?_
 refine .cut (fun x:Bool=>(fun_Fits_j1 x4 a2 x,[eP 6 0,eP 9 1,eB 27 x],[(0,(.live 26 [(.bool a2.M.Neg),(slK (kInt .u32) a2.M.Mag),(.int .i64 a2.E)])),(1,(.live 107 [(.bool x4.1),(.int .i64 x4.2.1),(.int .i64 x4.2.2.1),(.int .i64 x4.2.2.2.1),(.bool x4.2.2.2.2.1),(.str x4.2.2.2.2.2.1),.anyf]))])) ?_ ?_
 ·rintro y5
  dsimp only [fun_Fits_j1]
  refine .g 1 rfl<|?_
  refine .cd rfl (fun _ _=>?_) fun _ _=>?_
  ·refine .g 7 rfl<|.fi rfl rfl
  ·refine .g 6 rfl<|.p0 rfl rfl fun x6 _=>.g 4 rfl<|.fi rfl rfl
 ·intro h7
  refine .g 4 rfl<|?_
  refine .gd 20 rfl (fun _=>?_) fun _=>?_
  ·refine .g 8 rfl<|.jw (h7 true) [(0,0),(1,1)] rfl
  ·refine .g 4 rfl<|?_
   refine .gd 24 rfl (fun _=>?_) fun _=>?_
   ·refine .g 4 rfl<|.jw (h7 true) [(0,0),(1,1)] rfl
   ·refine .g 4 rfl<|.jw (h7 (decide (a3>64))) [(0,0),(1,1)] rfl
instance expo_fits_i (a0:Int) (a1:List AD):PC (expo_fits a0 a1) Tryz.prog 178 [(.int .i64 a0),(slK kD a1)] (fun r=>(.bool r)):=pc func178 (by kernel_rfl) rfl fun E=>by
 unfold expo_fits
 refine .g 7 rfl<|?_
 refine .cut (fun x:Bool=>(expo_fits_j1 a1 x,[eK kD 1 a1,eB 12 x],[])) ?_ ?_
 ·rintro y66
  dsimp only [expo_fits_j1]
  refine .g 1 rfl<|?_
  refine .cd rfl (fun _ _=>?_) fun _ _=>?_
  ·refine .g 7 rfl<|.fi rfl rfl
  ·refine .g 6 rfl<|.ln rfl rfl<|.g 3 rfl<|?_
   refine .cut (fun x:Unit=>(expo_fits_j2,[],[])) ?_ ?_
   ·rintro _
    dsimp only [expo_fits_j2]
    refine .g 7 rfl<|.fi rfl rfl
   ·intro h64
    refine .g 1 rfl<|?_
    refine .lp (fun n (x:Int)=>expo_fits_l3 a1 n x) (fun x=>([eK kD 13 a1,eI 14 (a1.length:Int),eI 15 x],[])) 0 [] rfl ?_
    rintro n3 y120
    try dsimp only
    rw [expo_fits_l3]
    refine .g 6 rfl<|?_
    refine .cd rfl (fun _ _=>?_) fun _ _=>?_
    ·refine .g 6 rfl<|.ix rfl rfl<|.g 6 rfl<|?_
     refine .cut (fun x:Bool=>(expo_fits_j4 (fun z0=>expo_fits_l3 a1 n3 z0) y120 x,[eK kD 13 a1,eI 14 (a1.length:Int),eI 15 y120,eB 28 x],[])) ?_ ?_
     ·rintro y128
      dsimp only [expo_fits_j4]
      refine .g 1 rfl<|?_
      refine .cd rfl (fun _ _=>?_) fun _ _=>?_
      ·refine .g 11 rfl<|.fi rfl rfl
      ·refine .g 7 rfl<|.ag (IntKind.i64.wrap (y120+1)) [] rfl
     ·intro h122
      refine .g 2 rfl<|.p0 rfl rfl fun x129 _=>.g 2 rfl<|?_
      refine .gd 22 rfl (fun _=>?_) fun _=>?_
      ·refine .g 7 rfl<|.jw (h122 true) [] rfl
      ·refine .g 3 rfl<|.p0 rfl rfl fun x130 _=>.g 3 rfl<|.jw (h122 (decide (x130>400))) [] rfl
    ·refine .g 4 rfl<|.jw (h64 ()) [] rfl
 ·intro h126
  refine .g 4 rfl<|?_
  refine .gd 9 rfl (fun _=>?_) fun _=>?_
  ·refine .g 4 rfl<|.jw (h126 true) [] rfl
  ·refine .g 4 rfl<|.jw (h126 (decide (a0>336))) [] rfl
instance iv_New_i (a0:Int):CC (iv_New a0) Tryz.prog 26 [(.int .i64 a0)] [] (fun r=>(match r with | (Sum.inl y)=>(.tup [.nilptr,(.int .i64 y)]) | (Sum.inr y)=>(.tup [(.ptr 0 0),(.int .i64 y.1)]))) (fun r=>(match r with | (Sum.inl y)=>[.dead] | (Sum.inr y)=>[(.live 53 [(.int .i64 y.2.1),(.int .i64 y.2.2)])])):=cc func26 (by kernel_rfl) rfl fun E=>by
 unfold iv_New
 refine .g 8 rfl<|?_
 refine .cut (fun x:Bool=>(iv_New_j1 a0 x,[eI 0 a0,eB 9 x],[])) ?_ ?_
 ·rintro y2
  dsimp only [iv_New_j1]
  refine .g 1 rfl<|?_
  refine .cd rfl (fun _ _=>?_) fun _ _=>?_
  ·refine .g 8 rfl<|.fi rfl rfl
  ·refine .g 12 rfl<|.fi rfl rfl
 ·intro h4
  refine .g 4 rfl<|?_
  refine .gd 6 rfl (fun _=>?_) fun _=>?_
  ·refine .g 4 rfl<|.jw (h4 true) [] rfl
  ·refine .g 4 rfl<|.jw (h4 (decide (a0>400))) [] rfl
theorem iv_New_k_0 {a0:Int} {r:Int} (h:iv_New a0=some (Sum.inl r)):Cal Tryz.prog 26 [(.int .i64 a0)] [] (.tup [.nilptr,(.int .i64 r)]) [.dead]:=CC.h h
theorem iv_New_k_1 {a0:Int} {r:Int × Int × Int} (h:iv_New a0=some (Sum.inr r)):Cal Tryz.prog 26 [(.int .i64 a0)] [] (.tup [(.ptr 0 0),(.int .i64 r.1)]) [(.live 53 [(.int .i64 r.2.1),(.int .i64 r.2.2)])]:=CC.h h
instance iv_Right_i (a0:AI):PC (iv_Right a0) Tryz.prog 29 [(.agg (kI.enc a0))] (fun r=>(.bool r)):=pc func29 (by kernel_rfl) rfl fun E=>by
 unfold iv_Right
 refine .g 7 rfl<|?_
 refine .cut (fun x:Bool=>(iv_Right_j1 x,[eB 2 x],[])) ?_ ?_
 ·rintro y11
  dsimp only [iv_Right_j1]
  refine .g 2 rfl<|.fi rfl rfl
 ·intro h6
  refine .g 3 rfl<|.p0 rfl rfl fun x12 _=>.g 1 rfl<|?_
  refine .gd 6 rfl (fun _=>?_) fun _=>?_
  ·refine .g 2 rfl<|.p0 rfl rfl fun x13 _=>.g 2 rfl<|?_
   refine .gd 11 rfl (fun _=>?_) fun _=>?_
   ·refine .g 4 rfl<|.p0 rfl rfl fun x14 _=>.g 4 rfl<|.jw (h6 (decide (x14≤0))) [] rfl
   ·refine .g 9 rfl<|.jw (h6 false) [] rfl
  ·refine .g 14 rfl<|.jw (h6 false) [] rfl
instance iv_trouble_note_i (a0:Int) (a1:Int) (a2:Int):CC (iv_trouble_note a0 a1 a2) Tryz.prog 77 [(.ptr 0 0),(.int .i64 a0)] [(.live 53 [(.int .i64 a1),(.int .i64 a2)])] (fun r=>(.bool r.1)) (fun r=>[(.live 53 [(.int .i64 r.2),(.int .i64 a2)])]):=cc func77 (by kernel_rfl) rfl fun E=>by
 unfold iv_trouble_note
 refine .g 15 rfl<|?_
 refine .cut (fun x:Int=>(iv_trouble_note_j1 x,[eP 0 0],[(0,(.live 53 [(.int .i64 x),(.int .i64 a2)]))])) ?_ ?_
 ·rintro y2
  dsimp only [iv_trouble_note_j1]
  refine .g 12 rfl<|.fi rfl rfl
 ·intro h3
  refine .cd rfl (fun _ _=>?_) fun _ _=>?_
  ·refine .g 7 rfl<|.jw (h3 a0) [(0,0)] rfl
  ·refine .g 1 rfl<|.jw (h3 a1) [(0,0)] rfl
instance cv_fine_i (a0:List AI) (a1:Int) (a2:Int):CC (cv_fine a0 a1 a2) Tryz.prog 75 [(.ptr 0 0),(slK kI a0)] [(.live 53 [(.int .i64 a1),(.int .i64 a2)])] (fun r=>(.bool r.1)) (fun r=>[(.live 53 [(.int .i64 r.2),(.int .i64 a2)])]):=cc func75 (by kernel_rfl) rfl fun E=>by
 unfold cv_fine
 refine .g 9 rfl<|.ln rfl rfl<|.g 3 rfl<|?_
 refine .cut (fun x:Int=>(cv_fine_j1 x,[eP 0 0],[(0,(.live 53 [(.int .i64 x),(.int .i64 a2)]))])) ?_ ?_
 ·rintro y122
  dsimp only [cv_fine_j1]
  refine .g 13 rfl<|.fi rfl rfl
 ·intro h61
  refine .g 1 rfl<|?_
  refine .lp (fun n (x:Int × Int)=>cv_fine_l2 a0 a2 n x.1 x.2) (fun x=>([eP 0 0,eK kI 7 a0,eI 8 (a0.length:Int),eI 9 x.1],[(0,(.live 53 [(.int .i64 x.2),(.int .i64 a2)]))])) (0,a1) [(0,0)] rfl ?_
  rintro n2 ⟨y149,y150⟩
  try dsimp only
  rw [cv_fine_l2]
  refine .g 6 rfl<|?_
  refine .cd rfl (fun _ _=>?_) fun _ _=>?_
  ·refine .g 6 rfl<|.ix rfl rfl<|.g 6 rfl<|?_
   refine .cut (fun x:Bool × Int=>(cv_fine_j3 (fun z0 z1=>cv_fine_l2 a0 a2 n2 z0 z1) y149 x.1 x.2,[eP 0 0,eK kI 7 a0,eI 8 (a0.length:Int),eI 9 y149,eB 22 x.1],[(0,(.live 53 [(.int .i64 x.2),(.int .i64 a2)]))])) ?_ ?_
   ·rintro ⟨y159,y160⟩
    dsimp only [cv_fine_j3]
    refine .g 1 rfl<|?_
    refine .cd rfl (fun _ _=>?_) fun _ _=>?_
    ·refine .g 5 rfl<|.jw (h61 y160) [(0,0)] rfl
    ·refine .g 7 rfl<|.ag ((IntKind.i64.wrap (y149+1)),y160) [(0,0)] rfl
   ·intro h119
    refine .g 2 rfl<|.p0 rfl rfl fun x161 _=>.g 2 rfl<|?_
    refine .gd 16 rfl (fun _=>?_) fun _=>?_
    ·refine .g 3 rfl<|.bind fun x162 h122=>.st rfl (cl (CC.h h122) [0] [] [true] rfl (.p rfl<|.i<|.nil) (.p rfl (.i<|.i<|.nil) .nil) fnil (.cons (.v (.i<|.i<|.nil)) .nil) (.bool _) (.turned .nil) rfl) rfl<|.g 3 rfl<|.jw (h119 ((!x162.1),x162.2)) [(0,0)] rfl
    ·refine .g 7 rfl<|.jw (h119 (false,y150)) [(0,0)] rfl
  ·refine .g 4 rfl<|.jw (h61 y150) [(0,0)] rfl
instance cv_Point_i (a0:AD) (a1:Int) (a2:Int):CC (cv_Point a0 a1 a2) Tryz.prog 33 [(.ptr 0 0),(.agg (kD.enc a0))] [(.live 53 [(.int .i64 a1),(.int .i64 a2)])] (fun r=>(.agg (kI.enc (⟨⟨(((r.1).Lo).M),((r.1).Lo).E⟩,⟨(((r.1).Hi).M),((r.1).Hi).E⟩⟩:AI)))) (fun r=>[(.live 53 [(.int .i64 r.2),(.int .i64 a2)])]):=cc func33 (by kernel_rfl) rfl fun E=>by
 unfold cv_Point
 refine .g 20 rfl<|.st rfl (bs kI [(⟨a0,a0⟩:AI)] rfl rfl) rfl<|.bind fun x2 h1=>.st rfl (cl (CC.h h1) [0] [] [true] rfl (.p rfl<|.l<|.nil) (.p rfl (.i<|.i<|.nil) .nil) fnil (.cons (.v (.i<|.i<|.nil)) .nil) (.bool _) (.turned .nil) rfl) rfl<|.g 3 rfl<|?_
 refine .cd rfl (fun _ _=>?_) fun _ _=>?_
 ·refine .g 8 rfl<|.fi rfl rfl
 ·refine .g 9 rfl<|.fi rfl rfl
instance dyad_fault_must_i (a0:Bool) (a1:Int) (a2:Int) (a3:Bool) (a4:List Int) (a5:Int):CC (dyad_fault_must a0 a1 a2 a3 a4 a5) Tryz.prog 183 [(.ptr 0 0),(.bool a0),(.int .i64 a1)] [(.live 174 [(.int .i64 a2),(.bool a3),(slK (kInt .u32) a4),(.int .i64 a5)])] (fun r=>(.bool r.1)) (fun r=>[(.live 174 [(.int .i64 r.2),(.bool a3),(slK (kInt .u32) a4),(.int .i64 a5)])]):=cc func183 (by kernel_rfl) rfl fun E=>by
 unfold dyad_fault_must
 refine .g 7 rfl<|?_
 refine .cut (fun x:Bool=>(dyad_fault_must_j1 a1 a2 x,[eP 0 0,eI 2 a1,eB 15 x],[(0,(.live 174 [(.int .i64 a2),(.bool a3),(slK (kInt .u32) a4),(.int .i64 a5)]))])) ?_ ?_
 ·rintro y3
  dsimp only [dyad_fault_must_j1]
  refine .g 1 rfl<|?_
  refine .cut (fun x:Int=>(dyad_fault_must_j2 x,[eP 0 0],[(0,(.live 174 [(.int .i64 x),(.bool a3),(slK (kInt .u32) a4),(.int .i64 a5)]))])) ?_ ?_
  ·rintro y4
   dsimp only [dyad_fault_must_j2]
   refine .g 12 rfl<|.fi rfl rfl
  ·intro h4
   refine .cd rfl (fun _ _=>?_) fun _ _=>?_
   ·refine .g 7 rfl<|.jw (h4 a1) [(0,0)] rfl
   ·refine .g 1 rfl<|.jw (h4 a2) [(0,0)] rfl
 ·intro h7
  refine .g 4 rfl<|?_
  refine .gd 9 rfl (fun _=>?_) fun _=>?_
  ·refine .g 7 rfl<|.jw (h7 (a2 == 0)) [(0,0)] rfl
  ·refine .g 7 rfl<|.jw (h7 false) [(0,0)] rfl
instance dw_right_i (a0:List AD) (a1:Int) (a2:Bool) (a3:List Int) (a4:Int):CC (dw_right a0 a1 a2 a3 a4) Tryz.prog 130 [(.ptr 0 0),(slK kD a0)] [(.live 174 [(.int .i64 a1),(.bool a2),(slK (kInt .u32) a3),(.int .i64 a4)])] (fun r=>(.bool r.1)) (fun r=>[(.live 174 [(.int .i64 r.2),(.bool a2),(slK (kInt .u32) a3),(.int .i64 a4)])]):=cc func130 (by kernel_rfl) rfl fun E=>by
 unfold dw_right
 refine .g 9 rfl<|.ln rfl rfl<|.g 3 rfl<|?_
 refine .cut (fun x:Int=>(dw_right_j1 x,[eP 0 0],[(0,(.live 174 [(.int .i64 x),(.bool a2),(slK (kInt .u32) a3),(.int .i64 a4)]))])) ?_ ?_
 ·rintro y50
  dsimp only [dw_right_j1]
  refine .g 13 rfl<|.fi rfl rfl
 ·intro h25
  refine .g 1 rfl<|?_
  refine .lp (fun n (x:Int × Int)=>dw_right_l2 a0 a2 a3 a4 n x.1 x.2) (fun x=>([eP 0 0,eK kD 7 a0,eI 8 (a0.length:Int),eI 9 x.1],[(0,(.live 174 [(.int .i64 x.2),(.bool a2),(slK (kInt .u32) a3),(.int .i64 a4)]))])) (0,a1) [(0,0)] rfl ?_
  rintro n2 ⟨y61,y62⟩
  try dsimp only
  rw [dw_right_l2]
  refine .g 6 rfl<|?_
  refine .cd rfl (fun _ _=>?_) fun _ _=>?_
  ·refine .g 6 rfl<|.ix rfl rfl<|.g 10 rfl<|.p0 rfl rfl fun x65 _=>.bind fun x66 h49=>.st rfl (cl (CC.h h49) [0] [] [true] rfl (.p rfl<|.b<|.i<|.nil) (.p rfl (.i<|.b<|.l<|.i<|.nil) .nil) fnil (.cons (.v (.i<|.b<|.l<|.i<|.nil)) .nil) (.bool _) (.turned .nil) rfl) rfl<|.dn (by kernel_rfl)<|.g 6 rfl<|.ag ((IntKind.i64.wrap (y61+1)),x66.2) [(0,0)] rfl
  ·refine .g 4 rfl<|.jw (h25 y62) [(0,0)] rfl
instance dw_told_i (a0:Int) (a1:Bool) (a2:List Int) (a3:Int):CC (dw_told a0 a1 a2 a3) Tryz.prog 131 [(.ptr 0 0)] [(.live 174 [(.int .i64 a0),(.bool a1),(slK (kInt .u32) a2),(.int .i64 a3)])] (fun r=>(.tup [(.agg (kD.enc (⟨((r.1).M),(r.1).E⟩:AD))),(.int .i64 r.2.1)])) (fun r=>[(.live 174 [(.int .i64 r.2.2),(.bool a1),(slK (kInt .u32) a2),(.int .i64 a3)])]):=cc func131 (by kernel_rfl) rfl fun E=>by
 unfold dw_told
 refine .g 8 rfl<|?_
 refine .cut (fun x:Bool × Int=>(dw_told_j1 a1 a2 a3 x.1 x.2,[eP 0 0,eP 2 1,eB 21 x.1],[(0,(.live 174 [(.int .i64 x.2),(.bool a1),(slK (kInt .u32) a2),(.int .i64 a3)])),(1,(.live 26 [(.bool false),(slK (kInt .u32) []),(.int .i64 0)]))])) ?_ ?_
 ·rintro ⟨y12,y13⟩
  dsimp only [dw_told_j1]
  refine .g 1 rfl<|?_
  refine .cd rfl (fun _ _=>?_) fun _ _=>?_
  ·refine .g 10 rfl<|.dn (by kernel_rfl)<|.g 3 rfl<|.fi rfl rfl
  ·refine .g 13 rfl<|.fi rfl rfl
 ·intro h7
  refine .g 11 rfl<|?_
  refine .gd 13 rfl (fun _=>?_) fun _=>?_
  ·refine .g 6 rfl<|.bind fun x14 h9=>.st rfl (cl (CC.h h9) [0] [] [true] rfl (.p rfl<|.b<|.i<|.nil) (.p rfl (.i<|.b<|.l<|.i<|.nil) .nil) fnil (.cons (.v (.i<|.b<|.l<|.i<|.nil)) .nil) (.bool _) (.turned .nil) rfl) rfl<|.g 1 rfl<|.dn (by kernel_rfl)<|.jw (h7 ((!x14.1),x14.2)) [(0,0),(1,1)] rfl
  ·refine .g 4 rfl<|.p0 rfl rfl fun x15 _=>.g 1 rfl<|.bind fun x16 h11=>.st rfl (cl (CC.h h11) [0] [] [true] rfl (.p rfl<|.b<|.i<|.nil) (.p rfl (.i<|.b<|.l<|.i<|.nil) .nil) fnil (.cons (.v (.i<|.b<|.l<|.i<|.nil)) .nil) (.bool _) (.turned .nil) rfl) rfl<|.g 1 rfl<|.dn (by kernel_rfl)<|.jw (h7 ((!x16.1),x16.2)) [(0,0),(1,1)] rfl
instance dyad_Scale_i (a0:AD) (a1:Int):PC (dyad_Scale a0 a1) Tryz.prog 88 [(.agg (kD.enc a0)),(.int .i64 a1)] (fun r=>(.tup [(.agg (kD.enc (⟨((r.1).M),(r.1).E⟩:AD))),(.int .i64 r.2)])):=pc func88 (by kernel_rfl) rfl fun E=>by
 unfold dyad_Scale
 refine .g 16 rfl<|?_
 refine .cut (fun x:Bool × Int=>(dyad_Scale_j1 a0 a1 x.1 x.2,[eI 1 a1,eP 2 0,eP 4 1,eP 6 2,eB 25 x.1],[(0,(.live 26 [(.bool a0.M.Neg),(slK (kInt .u32) a0.M.Mag),(.int .i64 a0.E)])),(1,(.live 26 [(.bool false),(slK (kInt .u32) []),(.int .i64 0)])),(2,(.live 174 [(.int .i64 x.2),(.bool false),(slK (kInt .u32) []),(.int .i64 0)]))])) ?_ ?_
 ·rintro ⟨y19,y20⟩
  dsimp only [dyad_Scale_j1]
  refine .g 1 rfl<|?_
  refine .cut (fun x:Bool × (List Int) × Int=>(dyad_Scale_j2 y20 x.1 x.2.1 x.2.2,[eP 4 1,eP 6 2],[(1,(.live 26 [(.bool false),(slK (kInt .u32) []),(.int .i64 0)])),(2,(.live 174 [(.int .i64 y20),(.bool x.1),(slK (kInt .u32) x.2.1),(.int .i64 x.2.2)]))])) ?_ ?_
  ·rintro ⟨y21,y22,y23⟩
   dsimp only [dyad_Scale_j2]
   refine .g 4 rfl<|.bind fun x24 h9=>.st rfl (cl (CC.h h9) [2] [] [true] rfl (.p rfl<|.nil) (.p rfl (.i<|.b<|.l<|.i<|.nil) .nil) fnil (.cons (.v (.i<|.b<|.l<|.i<|.nil)) .nil) (ren_tupL (.a kD<|.i<|.nil)) (.turned .nil) rfl) rfl<|.g 7 rfl<|.fi rfl rfl
  ·intro h10
   refine .cd rfl (fun _ _=>?_) fun _ _=>?_
   ·refine .g 13 rfl<|.jw (h10 (a0.M.Neg,a0.M.Mag,(IntKind.i64.wrap (a0.E+a1)))) [(1,1),(2,2)] rfl
   ·refine .g 1 rfl<|.jw (h10 (false,[],0)) [(1,1),(2,2)] rfl
 ·intro h13
  refine .g 3 rfl<|.st rfl (bs kD [a0] rfl rfl) rfl<|.bind fun x25 h14=>.st rfl (cl (CC.h h14) [2] [] [true] rfl (.p rfl<|.l<|.nil) (.p rfl (.i<|.b<|.l<|.i<|.nil) .nil) fnil (.cons (.v (.i<|.b<|.l<|.i<|.nil)) .nil) (.bool _) (.turned .nil) rfl) rfl<|.g 1 rfl<|?_
  refine .gd 13 rfl (fun _=>?_) fun _=>?_
  ·refine .g 4 rfl<|.p0 rfl rfl fun x26 _=>.bind fun x27 h17=>.st rfl (cl (CC.h h17) [2] [] [true] rfl (.p rfl<|.b<|.i<|.nil) (.p rfl (.i<|.b<|.l<|.i<|.nil) .nil) fnil (.cons (.v (.i<|.b<|.l<|.i<|.nil)) .nil) (.bool _) (.turned .nil) rfl) rfl<|.g 2 rfl<|?_
   refine .gd 21 rfl (fun _=>?_) fun _=>?_
   ·refine .g 1 rfl<|.p0 rfl rfl fun x28 _=>.g 2 rfl<|.dn (by kernel_rfl)<|.jw (h13 ((!x28),x27.2)) [(0,0),(1,1),(2,2)] rfl
   ·refine .g 4 rfl<|.dn (by kernel_rfl)<|.jw (h13 (false,x27.2)) [(0,0),(1,1),(2,2)] rfl
  ·refine .g 12 rfl<|.dn (by kernel_rfl)<|.jw (h13 (false,x25.2)) [(0,0),(1,1),(2,2)] rfl
instance cv_take_i (a0:AD) (a1:Int) (a2:Int) (a3:Int):CC (cv_take a0 a1 a2 a3) Tryz.prog 186 [(.ptr 0 0),(.agg (kD.enc a0)),(.int .i64 a1)] [(.live 53 [(.int .i64 a2),(.int .i64 a3)])] (fun r=>(.agg (kD.enc (⟨((r.1).M),(r.1).E⟩:AD)))) (fun r=>[(.live 53 [(.int .i64 r.2),(.int .i64 a3)])]):=cc func186 (by kernel_rfl) rfl fun E=>by
 unfold cv_take
 refine .g 13 rfl<|.bind fun x2 h1=>.st rfl (cl (CC.h h1) [0] [] [true] rfl (.p rfl<|.i<|.nil) (.p rfl (.i<|.i<|.nil) .nil) fnil (.cons (.v (.i<|.i<|.nil)) .nil) (.bool _) (.turned .nil) rfl) rfl<|.g 3 rfl<|?_
 refine .cd rfl (fun _ _=>?_) fun _ _=>?_
 ·refine .g 8 rfl<|.fi rfl rfl
 ·refine .g 9 rfl<|.fi rfl rfl
instance cv_out_i (a0:AD) (a1:AD) (a2:Int) (a3:Int):CC (cv_out a0 a1 a2 a3) Tryz.prog 91 [(.ptr 0 0),(.agg (kD.enc a0)),(.agg (kD.enc a1))] [(.live 53 [(.int .i64 a2),(.int .i64 a3)])] (fun r=>(.agg (kI.enc (⟨⟨(((r).Lo).M),((r).Lo).E⟩,⟨(((r).Hi).M),((r).Hi).E⟩⟩:AI)))) (fun r=>[(.live 53 [(.int .i64 a2),(.int .i64 a3)])]):=cc func91 (by kernel_rfl) rfl fun E=>by
 unfold cv_out
 refine .g 18 rfl<|?_
 refine .cd rfl (fun _ _=>?_) fun _ _=>?_
 ·refine .g 8 rfl<|.fi rfl rfl
 ·refine .g 11 rfl<|.fi rfl rfl
instance cv_Scale_i (a0:AI) (a1:Int) (a2:Int) (a3:Int):CC (cv_Scale a0 a1 a2 a3) Tryz.prog 136 [(.ptr 0 0),(.agg (kI.enc a0)),(.int .i64 a1)] [(.live 53 [(.int .i64 a2),(.int .i64 a3)])] (fun r=>(.agg (kI.enc (⟨⟨(((r.1).Lo).M),((r.1).Lo).E⟩,⟨(((r.1).Hi).M),((r.1).Hi).E⟩⟩:AI)))) (fun r=>[(.live 53 [(.int .i64 r.2),(.int .i64 a3)])]):=cc func136 (by kernel_rfl) rfl fun E=>by
 unfold cv_Scale
 refine .g 11 rfl<|.st rfl (bs kI [a0] rfl rfl) rfl<|.bind fun x7 h1=>.st rfl (cl (CC.h h1) [0] [] [true] rfl (.p rfl<|.l<|.nil) (.p rfl (.i<|.i<|.nil) .nil) fnil (.cons (.v (.i<|.i<|.nil)) .nil) (.bool _) (.turned .nil) rfl) rfl<|.g 3 rfl<|?_
 refine .cd rfl (fun _ _=>?_) fun _ _=>?_
 ·refine .g 8 rfl<|.fi rfl rfl
 ·refine .g 8 rfl<|.p0 rfl rfl fun x8 _=>.g 2 rfl<|.bind fun x9 h5=>.st rfl (cl (CC.h h5) [0] [] [true] rfl (.p rfl<|.a kD<|.i<|.nil) (.p rfl (.i<|.i<|.nil) .nil) fnil (.cons (.v (.i<|.i<|.nil)) .nil) (ren_agg (K:=kD) _) (.turned .nil) rfl) rfl<|.g 15 rfl<|?_
  refine .cd rfl (fun _ _=>?_) fun _ _=>?_
  ·refine .g 8 rfl<|.fi rfl rfl
  ·refine .g 10 rfl<|.p0 rfl rfl fun x10 _=>.g 2 rfl<|.bind fun x11 h9=>.st rfl (cl (CC.h h9) [0] [] [true] rfl (.p rfl<|.a kD<|.i<|.nil) (.p rfl (.i<|.i<|.nil) .nil) fnil (.cons (.v (.i<|.i<|.nil)) .nil) (ren_agg (K:=kD) _) (.turned .nil) rfl) rfl<|.bind fun x12 h10=>.st rfl (cl (CC.h h10) [0] [] [false] rfl (.p rfl<|.a kD<|.a kD<|.nil) (.p rfl (.i<|.i<|.nil) .nil) fnil (.cons (.v (.i<|.i<|.nil)) .nil) (ren_agg (K:=kI) _) (.kept rfl .nil) rfl) rfl<|.g 1 rfl<|.dn (by kernel_rfl)<|.g 2 rfl<|.fi rfl rfl
instance cv_Neg_i (a0:AI) (a1:Int) (a2:Int):CC (cv_Neg a0 a1 a2) Tryz.prog 94 [(.ptr 0 0),(.agg (kI.enc a0))] [(.live 53 [(.int .i64 a1),(.int .i64 a2)])] (fun r=>(.agg (kI.enc (⟨⟨(((r.1).Lo).M),((r.1).Lo).E⟩,⟨(((r.1).Hi).M),((r.1).Hi).E⟩⟩:AI)))) (fun r=>[(.live 53 [(.int .i64 r.2),(.int .i64 a2)])]):=cc func94 (by kernel_rfl) rfl fun E=>by
 unfold cv_Neg
 refine .g 11 rfl<|.st rfl (bs kI [a0] rfl rfl) rfl<|.bind fun x4 h1=>.st rfl (cl (CC.h h1) [0] [] [true] rfl (.p rfl<|.l<|.nil) (.p rfl (.i<|.i<|.nil) .nil) fnil (.cons (.v (.i<|.i<|.nil)) .nil) (.bool _) (.turned .nil) rfl) rfl<|.g 3 rfl<|?_
 refine .cd rfl (fun _ _=>?_) fun _ _=>?_
 ·refine .g 8 rfl<|.fi rfl rfl
 ·refine .g 6 rfl<|.p0 rfl rfl fun x5 _=>.g 2 rfl<|.p0 rfl rfl fun x6 _=>.g 2 rfl<|.dn (by kernel_rfl)<|.g 2 rfl<|.fi rfl rfl
instance iv_trouble_Err_i (a0:Int) (a1:Int):CC (iv_trouble_Err a0 a1) Tryz.prog 28 [(.ptr 0 0)] [(.live 53 [(.int .i64 a0),(.int .i64 a1)])] (fun r=>(.int .i64 r)) (fun r=>[(.live 53 [(.int .i64 a0),(.int .i64 a1)])]):=cc func28 (by kernel_rfl) rfl fun E=>by
 unfold iv_trouble_Err
 refine .g 15 rfl<|.fi rfl rfl
instance iv_Has_i (a0:AI) (a1:AD):PC (iv_Has a0 a1) Tryz.prog 54 [(.agg (kI.enc a0)),(.agg (kD.enc a1))] (fun r=>(.bool r)):=pc func54 (by kernel_rfl) rfl fun E=>by
 unfold iv_Has
 refine .g 8 rfl<|?_
 refine .cut (fun x:Bool=>(iv_Has_j1 x,[eB 4 x],[])) ?_ ?_
 ·rintro y14
  dsimp only [iv_Has_j1]
  refine .g 2 rfl<|.fi rfl rfl
 ·intro h8
  refine .g 2 rfl<|.p0 rfl rfl fun x15 _=>.g 1 rfl<|?_
  refine .gd 7 rfl (fun _=>?_) fun _=>?_
  ·refine .g 1 rfl<|.p0 rfl rfl fun x16 _=>.g 2 rfl<|?_
   refine .gd 11 rfl (fun _=>?_) fun _=>?_
   ·refine .g 3 rfl<|.p0 rfl rfl fun x17 _=>.g 3 rfl<|?_
    refine .gd 18 rfl (fun _=>?_) fun _=>?_
    ·refine .g 3 rfl<|.p0 rfl rfl fun x18 _=>.g 4 rfl<|.jw (h8 (decide (x18≤0))) [] rfl
    ·refine .g 8 rfl<|.jw (h8 false) [] rfl
   ·refine .g 15 rfl<|.jw (h8 false) [] rfl
  ·refine .g 19 rfl<|.jw (h8 false) [] rfl
instance iv_In_i (a0:AI) (a1:AI):PC (iv_In a0 a1) Tryz.prog 326 [(.agg (kI.enc a0)),(.agg (kI.enc a1))] (fun r=>(.bool r)):=pc func326 (by kernel_rfl) rfl fun E=>by
 unfold iv_In
 refine .g 8 rfl<|?_
 refine .cut (fun x:Bool=>(iv_In_j1 x,[eB 4 x],[])) ?_ ?_
 ·rintro y11
  dsimp only [iv_In_j1]
  refine .g 2 rfl<|.fi rfl rfl
 ·intro h6
  refine .g 2 rfl<|.p0 rfl rfl fun x12 _=>.g 1 rfl<|?_
  refine .gd 7 rfl (fun _=>?_) fun _=>?_
  ·refine .g 3 rfl<|.p0 rfl rfl fun x13 _=>.g 2 rfl<|?_
   refine .gd 13 rfl (fun _=>?_) fun _=>?_
   ·refine .g 3 rfl<|.p0 rfl rfl fun x14 _=>.g 3 rfl<|.jw (h6 x14) [] rfl
   ·refine .g 7 rfl<|.jw (h6 false) [] rfl
  ·refine .g 13 rfl<|.jw (h6 false) [] rfl
instance cv_Int_i (a0:Int) (a1:Int) (a2:Int):CC (cv_Int a0 a1 a2) Tryz.prog 100 [(.ptr 0 0),(.int .i64 a0)] [(.live 53 [(.int .i64 a1),(.int .i64 a2)])] (fun r=>(.agg (kI.enc (⟨⟨(((r.1).Lo).M),((r.1).Lo).E⟩,⟨(((r.1).Hi).M),((r.1).Hi).E⟩⟩:AI)))) (fun r=>[(.live 53 [(.int .i64 r.2),(.int .i64 a2)])]):=cc func100 (by kernel_rfl) rfl fun E=>by
 unfold cv_Int
 refine .g 9 rfl<|.p0 rfl rfl fun x3 _=>.bind fun x4 h2=>.st rfl (cl (CC.h h2) [0] [] [true] rfl (.p rfl<|.a kD<|.nil) (.p rfl (.i<|.i<|.nil) .nil) fnil (.cons (.v (.i<|.i<|.nil)) .nil) (ren_agg (K:=kI) _) (.turned .nil) rfl) rfl<|.g 4 rfl<|.fi rfl rfl
instance cv_Div_1_i (a0:Bool) (a1:Int) (a2:Int):CC (cv_Div_1 a0 a1 a2) Tryz.prog 189 [(.bool a0),(.ptr 0 0)] [(.live 45 [(.ptr 1 0)]),(.live 53 [(.int .i64 a1),(.int .i64 a2)])] (fun r=>(.fn 190 [] [(.ptr 0 0),(.ptr 2 0)])) (fun r=>[(.live 45 [(.ptr 1 0)]),(.live 53 [(.int .i64 a1),(.int .i64 a2)]),(.live 4 [(.bool r)])]):=cc func189 (by kernel_rfl) rfl fun E=>by
 unfold cv_Div_1
 refine .g 13 rfl<|.fi rfl rfl
instance dw_prec_i (a0:Int) (a1:Int) (a2:Bool) (a3:List Int) (a4:Int):CC (dw_prec a0 a1 a2 a3 a4) Tryz.prog 182 [(.ptr 0 0),(.int .i64 a0)] [(.live 174 [(.int .i64 a1),(.bool a2),(slK (kInt .u32) a3),(.int .i64 a4)])] (fun r=>(.bool r.1)) (fun r=>[(.live 174 [(.int .i64 r.2),(.bool a2),(slK (kInt .u32) a3),(.int .i64 a4)])]):=cc func182 (by kernel_rfl) rfl fun E=>by
 unfold dw_prec
 refine .g 11 rfl<|.p0 rfl rfl fun x3 _=>.bind fun x4 h2=>.st rfl (cl (CC.h h2) [0] [] [true] rfl (.p rfl<|.b<|.i<|.nil) (.p rfl (.i<|.b<|.l<|.i<|.nil) .nil) fnil (.cons (.v (.i<|.b<|.l<|.i<|.nil)) .nil) (.bool _) (.turned .nil) rfl) rfl<|.g 1 rfl<|.dn (by kernel_rfl)<|.g 2 rfl<|.fi rfl rfl
instance mb_Div32_i (a0:Int) (a1:Int) (a2:Int):PC (mb_Div32 a0 a1 a2) Tryz.prog 329 [(.int .u32 a0),(.int .u32 a1),(.int .u32 a2)] (fun r=>(.tup [(.int .u32 r.1),(.int .u32 r.2)])):=pc func329 (by kernel_rfl) rfl fun E=>by
 unfold mb_Div32
 refine .g 8 rfl<|?_
 refine .cut (fun x:Bool=>(mb_Div32_j1 a2 a0 a1 x,[eW 0 a0,eW 1 a1,eW 2 a2,eB 15 x],[])) ?_ ?_
 ·rintro y2
  dsimp only [mb_Div32_j1]
  refine .g 1 rfl<|?_
  refine .cd rfl (fun _ _=>?_) fun _ _=>?_
  ·exact .no
  ·refine .g 18 rfl<|.guard fun h6=>.st rfl (snd_quo _ _ _ _ _ _ _ rfl rfl rfl rfl rfl h6) rfl<|.g 4 rfl<|.guard fun h7=>.st rfl (snd_rem _ _ _ _ _ _ _ rfl rfl rfl rfl rfl h7) rfl<|.g 3 rfl<|.dn (by kernel_rfl)<|.g 2 rfl<|.fi rfl rfl
 ·intro h8
  refine .g 4 rfl<|?_
  refine .gd 11 rfl (fun _=>?_) fun _=>?_
  ·refine .g 5 rfl<|.jw (h8 (decide (a2≤a0))) [] rfl
  ·refine .g 5 rfl<|.jw (h8 false) [] rfl
instance quo_short_i (a0:List Int) (a1:Int):PC (quo_short a0 a1) Tryz.prog 273 [(slK (kInt .u32) a0),(.int .u32 a1)] (fun r=>(.tup [(slK (kInt .u32) r.1),(slK (kInt .u32) r.2.1),(.bool r.2.2)])):=pc func273 (by kernel_rfl) rfl fun E=>by
 unfold quo_short
 refine .g 2 rfl<|.st rfl (as0 rfl) rfl<|.st rfl (as0 rfl) rfl<|.g 6 rfl<|.ln rfl rfl<|.guard fun h1=>.sv (.row 0 (kInt .u32).sz 0 (((List.replicate a0.length (kInt .u32).z)).length)) [(0,(rwK (kInt .u32) 117 (List.replicate a0.length (kInt .u32).z)))] rfl (snd_makeK (kInt .u32) _ _ _ _ _ 0 _ _ _ rfl underlying22 ze117 sb117 (by decide) rfl rfl rfl rfl rfl h1) rfl<|.g 12 rfl<|.ln rfl rfl<|.g 3 rfl<|?_
 refine .cut (fun x:Int × (List Int)=>(quo_short_j1 x.1 x.2,[(4,some (.row 0 (kInt .u32).sz 0 ((x.2).length))),eW 7 x.1],[(0,(rwK (kInt .u32) 117 x.2))])) ?_ ?_
 ·rintro ⟨y41,y42⟩
  dsimp only [quo_short_j1]
  refine .g 2 rfl<|?_
  refine .weak ?_ (fun a w h=>Conc.freezeK (kInt .u32) h 4 0 0 ((y42).length) 117 y42 rfl rfl (by omega))
  refine .weak ?_ (fun a w h=>take_all h)
  refine .g 2 rfl<|.p0 rfl rfl fun x43 _=>.g 2 rfl<|.p0 rfl rfl fun x44 _=>.g 6 rfl<|.fi rfl rfl
 ·intro h28
  refine .g 1 rfl<|?_
  refine .lp (fun n (x:Int × Int × (List Int))=>quo_short_l2 a0 a1 n x.1 x.2.1 x.2.2) (fun x=>([eL 0 a0,eW 1 a1,(4,some (.row 0 (kInt .u32).sz 0 ((x.2.2).length))),eW 7 x.1,eI 14 (a0.length:Int),eI 15 x.2.1],[(0,(rwK (kInt .u32) 117 x.2.2))])) (0,0,(List.replicate a0.length (kInt .u32).z)) [(0,0)] rfl ?_
  rintro n2 ⟨y52,y53,y54⟩
  try dsimp only
  rw [quo_short_l2]
  refine .g 6 rfl<|?_
  refine .cd rfl (fun _ _=>?_) fun _ _=>?_
  ·refine .g 13 rfl<|.ln rfl rfl<|.g 12 rfl<|.ix rfl rfl<|.g 2 rfl<|.p0 rfl rfl fun x56 _=>.g 3 rfl<|.guard fun h52=>?_
   obtain ⟨h521,h522⟩:=h52
   refine .sv (.rptr 0 (kInt .u32).sz ((IntKind.i64.wrap ((IntKind.i64.wrap ((a0.length:Int)-1))-y53)).toNat) 0) [] rfl (idx_r (snd_index_r _ _ _ _ _ 0 0 ((y54).length) _ (IntKind.i64.wrap ((IntKind.i64.wrap ((a0.length:Int)-1))-y53)) rfl underlying22 si117 rfl rfl rfl rfl h521 (by omega)) (Nat.zero_add _)) rfl<|.sm [(0,(rwK (kInt .u32) 117 ((y54).set ((IntKind.i64.wrap ((IntKind.i64.wrap ((a0.length:Int)-1))-y53)).toNat) x56.1)))] rfl (snd_storeK_sca (kInt .u32) _ _ _ 0 ((IntKind.i64.wrap ((IntKind.i64.wrap ((a0.length:Int)-1))-y53)).toNat) _ _ x56.1 _ rfl rfl rfl sc117 rfl rfl rfl rfl rfl rfl (by first | omega | (simp only [List.length_set]; omega))) rfl<|?_
   refine .weak ?_ (fun a w h=>Conc.relen h 4 ((((y54).set ((IntKind.i64.wrap ((IntKind.i64.wrap ((a0.length:Int)-1))-y53)).toNat) x56.1)).length) rfl List.length_set.symm)
   refine .g 8 rfl<|.ag (x56.2,(IntKind.i64.wrap (y53+1)),((y54).set ((IntKind.i64.wrap ((IntKind.i64.wrap ((a0.length:Int)-1))-y53)).toNat) x56.1)) [(0,0)] rfl
  ·refine .g 4 rfl<|.jw (h28 (y52,y54)) [(0,0)] rfl
instance mb_LeadingZeros32_i (a0:Int):PC (mb_LeadingZeros32 a0) Tryz.prog 330 [(.int .u32 a0)] (fun r=>(.int .i64 r)):=pc func330 (by kernel_rfl) rfl fun E=>by
 unfold mb_LeadingZeros32
 refine .g 8 rfl<|.p0 rfl rfl fun x2 _=>.g 5 rfl<|.fi rfl rfl
instance quo_take_i (a0:Nat) (a1:Nat) (a2:List Int) (a3:Int) (a4:List Int):CC (quo_take a0 a1 a2 a3 a4) Tryz.prog 331 [(.row 0 (kInt .u32).sz a0 a1),(slK (kInt .u32) a2),(.int .u64 a3)] [(rwK (kInt .u32) 117 a4)] (fun r=>(.bool r.1)) (fun r=>[(rwK (kInt .u32) 117 r.2)]):=cc func331 (by kernel_rfl) rfl fun E=>by
 unfold quo_take
 refine .g 19 rfl<|.ln rfl rfl<|.g 3 rfl<|?_
 refine .cut (fun x:Int × Int × (List Int)=>(quo_take_j1 a2 a1 a0 x.1 x.2.1 x.2.2,[(0,some (.row 0 (kInt .u32).sz a0 a1)),eL 1 a2,eX 7 x.1,eW 8 x.2.1],[(0,(rwK (kInt .u32) 117 x.2.2))])) ?_ ?_
 ·rintro ⟨y47,y48,y49⟩
  dsimp only [quo_take_j1]
  refine .g 5 rfl<|.ln rfl rfl<|.g 2 rfl<|.ln rfl rfl<|.guard fun h31=>?_
  obtain ⟨h311,h312,h313⟩:=h31
  refine .sv (.rptr 0 (kInt .u32).sz (a0+a2.length) 0) [] rfl (idx_r (snd_index_r _ _ _ _ _ 0 a0 a1 _ (a2.length:Int) rfl underlying22 si117 rfl rfl rfl rfl h311 (by omega)) rfl) rfl<|.sv (.int .u32 ((y49).getD (a0+a2.length) (kInt .u32).z)) [] rfl (snd_loadK_sca (kInt .u32) _ _ 0 (a0+a2.length) 0 _ _ rfl sc117 rfl rfl rfl rfl (by first | omega | (simp only [List.length_set]; omega)) (by decide)) rfl<|.g 3 rfl<|.p0 rfl rfl fun x50 _=>.g 3 rfl<|.guard fun h33=>?_
  obtain ⟨h331,h332,h333⟩:=h33
  refine .sv (.rptr 0 (kInt .u32).sz (a0+a2.length) 0) [] rfl (idx_r (snd_index_r _ _ _ _ _ 0 a0 a1 _ (a2.length:Int) rfl underlying22 si117 rfl rfl rfl rfl h331 (by omega)) rfl) rfl<|.sm [(0,(rwK (kInt .u32) 117 ((y49).set (a0+a2.length) x50.1)))] rfl (snd_storeK_sca (kInt .u32) _ _ _ 0 (a0+a2.length) _ _ x50.1 _ rfl rfl rfl sc117 rfl rfl rfl rfl rfl rfl (by first | omega | (simp only [List.length_set]; omega))) rfl<|.g 11 rfl<|.fi rfl rfl
 ·intro h34
  refine .g 1 rfl<|?_
  refine .lp (fun n (x:Int × Int × Int × (List Int))=>quo_take_l2 a2 a1 a0 a3 n x.1 x.2.1 x.2.2.1 x.2.2.2) (fun x=>([(0,some (.row 0 (kInt .u32).sz a0 a1)),eL 1 a2,eX 2 a3,eX 7 x.1,eW 8 x.2.1,eL 12 a2,eI 13 (a2.length:Int),eI 14 x.2.2.1],[(0,(rwK (kInt .u32) 117 x.2.2.2))])) (0,0,0,a4) [(0,0)] rfl ?_
  rintro n2 ⟨y59,y60,y61,y62⟩
  try dsimp only
  rw [quo_take_l2]
  refine .g 6 rfl<|?_
  refine .cd rfl (fun _ _=>?_) fun _ _=>?_
  ·refine .g 7 rfl<|.ix rfl rfl<|.g 28 rfl<|.guard fun h62=>?_
   obtain ⟨h621,h622,h623⟩:=h62
   refine .sv (.rptr 0 (kInt .u32).sz (a0+y61.toNat) 0) [] rfl (idx_r (snd_index_r _ _ _ _ _ 0 a0 a1 _ y61 rfl underlying22 si117 rfl rfl rfl rfl h621 (by omega)) rfl) rfl<|.sv (.int .u32 ((y62).getD (a0+y61.toNat) (kInt .u32).z)) [] rfl (snd_loadK_sca (kInt .u32) _ _ 0 (a0+y61.toNat) 0 _ _ rfl sc117 rfl rfl rfl rfl (by first | omega | (simp only [List.length_set]; omega)) (by decide)) rfl<|.g 3 rfl<|.p0 rfl rfl fun x64 _=>.g 3 rfl<|.guard fun h64=>?_
   obtain ⟨h641,h642,h643⟩:=h64
   refine .sv (.rptr 0 (kInt .u32).sz (a0+y61.toNat) 0) [] rfl (idx_r (snd_index_r _ _ _ _ _ 0 a0 a1 _ y61 rfl underlying22 si117 rfl rfl rfl rfl h641 (by omega)) rfl) rfl<|.sm [(0,(rwK (kInt .u32) 117 ((y62).set (a0+y61.toNat) x64.1)))] rfl (snd_storeK_sca (kInt .u32) _ _ _ 0 (a0+y61.toNat) _ _ x64.1 _ rfl rfl rfl sc117 rfl rfl rfl rfl rfl rfl (by first | omega | (simp only [List.length_set]; omega))) rfl<|.g 8 rfl<|.ag ((shrI .u64 (IntKind.u64.wrap ((IntKind.u64.wrap ((IntKind.u64.wrap (a2.getD y61.toNat (kInt .u32).z))*a3))+y59)) 32),x64.2,(IntKind.i64.wrap (y61+1)),((y62).set (a0+y61.toNat) x64.1)) [(0,0)] rfl
  ·refine .g 4 rfl<|.jw (h34 (y59,y60,y62)) [(0,0)] rfl
instance quo_give_i (a0:Nat) (a1:Nat) (a2:List Int) (a3:List Int):CC (quo_give a0 a1 a2 a3) Tryz.prog 332 [(.row 0 (kInt .u32).sz a0 a1),(slK (kInt .u32) a2)] [(rwK (kInt .u32) 117 a3)] (fun r=>(.tup [])) (fun r=>[(rwK (kInt .u32) 117 r)]):=cc func332 (by kernel_rfl) rfl fun E=>by
 unfold quo_give
 refine .g 9 rfl<|.ln rfl rfl<|.g 3 rfl<|?_
 refine .cut (fun x:Int × (List Int)=>(quo_give_j1 a2 a1 a0 x.1 x.2,[(0,some (.row 0 (kInt .u32).sz a0 a1)),eL 1 a2,eW 4 x.1],[(0,(rwK (kInt .u32) 117 x.2))])) ?_ ?_
 ·rintro ⟨y39,y40⟩
  dsimp only [quo_give_j1]
  refine .g 4 rfl<|.ln rfl rfl<|.guard fun h31=>?_
  obtain ⟨h311,h312,h313⟩:=h31
  refine .sv (.rptr 0 (kInt .u32).sz (a0+a2.length) 0) [] rfl (idx_r (snd_index_r _ _ _ _ _ 0 a0 a1 _ (a2.length:Int) rfl underlying22 si117 rfl rfl rfl rfl h311 (by omega)) rfl) rfl<|.sv (.int .u32 ((y40).getD (a0+a2.length) (kInt .u32).z)) [] rfl (snd_loadK_sca (kInt .u32) _ _ 0 (a0+a2.length) 0 _ _ rfl sc117 rfl rfl rfl rfl (by first | omega | (simp only [List.length_set]; omega)) (by decide)) rfl<|.g 2 rfl<|.guard fun h32=>?_
  obtain ⟨h321,h322,h323⟩:=h32
  refine .sv (.rptr 0 (kInt .u32).sz (a0+a2.length) 0) [] rfl (idx_r (snd_index_r _ _ _ _ _ 0 a0 a1 _ (a2.length:Int) rfl underlying22 si117 rfl rfl rfl rfl h321 (by omega)) rfl) rfl<|.sm [(0,(rwK (kInt .u32) 117 ((y40).set (a0+a2.length) (IntKind.u32.wrap (((y40).getD (a0+a2.length) (kInt .u32).z)+y39)))))] rfl (snd_storeK_sca (kInt .u32) _ _ _ 0 (a0+a2.length) _ _ (IntKind.u32.wrap (((y40).getD (a0+a2.length) (kInt .u32).z)+y39)) _ rfl rfl rfl sc117 rfl rfl rfl rfl rfl rfl (by first | omega | (simp only [List.length_set]; omega))) rfl<|.g 1 rfl<|.fi rfl rfl
 ·intro h33
  refine .g 1 rfl<|?_
  refine .lp (fun n (x:Int × Int × (List Int))=>quo_give_l2 a2 a1 a0 n x.1 x.2.1 x.2.2) (fun x=>([(0,some (.row 0 (kInt .u32).sz a0 a1)),eL 1 a2,eW 4 x.1,eL 7 a2,eI 8 (a2.length:Int),eI 9 x.2.1],[(0,(rwK (kInt .u32) 117 x.2.2))])) (0,0,a3) [(0,0)] rfl ?_
  rintro n2 ⟨y48,y49,y50⟩
  try dsimp only
  rw [quo_give_l2]
  refine .g 6 rfl<|?_
  refine .cd rfl (fun _ _=>?_) fun _ _=>?_
  ·refine .g 7 rfl<|.ix rfl rfl<|.g 10 rfl<|.guard fun h61=>?_
   obtain ⟨h611,h612,h613⟩:=h61
   refine .sv (.rptr 0 (kInt .u32).sz (a0+y49.toNat) 0) [] rfl (idx_r (snd_index_r _ _ _ _ _ 0 a0 a1 _ y49 rfl underlying22 si117 rfl rfl rfl rfl h611 (by omega)) rfl) rfl<|.sv (.int .u32 ((y50).getD (a0+y49.toNat) (kInt .u32).z)) [] rfl (snd_loadK_sca (kInt .u32) _ _ 0 (a0+y49.toNat) 0 _ _ rfl sc117 rfl rfl rfl rfl (by first | omega | (simp only [List.length_set]; omega)) (by decide)) rfl<|.g 2 rfl<|.p0 rfl rfl fun x52 _=>.g 3 rfl<|.guard fun h63=>?_
   obtain ⟨h631,h632,h633⟩:=h63
   refine .sv (.rptr 0 (kInt .u32).sz (a0+y49.toNat) 0) [] rfl (idx_r (snd_index_r _ _ _ _ _ 0 a0 a1 _ y49 rfl underlying22 si117 rfl rfl rfl rfl h631 (by omega)) rfl) rfl<|.sm [(0,(rwK (kInt .u32) 117 ((y50).set (a0+y49.toNat) x52.1)))] rfl (snd_storeK_sca (kInt .u32) _ _ _ 0 (a0+y49.toNat) _ _ x52.1 _ rfl rfl rfl sc117 rfl rfl rfl rfl rfl rfl (by first | omega | (simp only [List.length_set]; omega))) rfl<|.g 8 rfl<|.ag (x52.2,(IntKind.i64.wrap (y49+1)),((y50).set (a0+y49.toNat) x52.1)) [(0,0)] rfl
  ·refine .g 4 rfl<|.jw (h33 (y48,y50)) [(0,0)] rfl
end Go.Proofs.YtoakhpdeadglpaaGreat.Gen
