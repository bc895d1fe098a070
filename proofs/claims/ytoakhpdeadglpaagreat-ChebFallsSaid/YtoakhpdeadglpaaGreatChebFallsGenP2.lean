/- Printed by geng.py: a call does what the plain function says. -/
import Derived.Test.YtoakhpdeadglpaaGreatChebFallsGenP1
set_option linter.unusedVariables false
set_option linter.unusedSimpArgs false
set_option maxRecDepth 4000
set_option synthInstance.maxSize 4000
set_option synthInstance.maxHeartbeats 400000
namespace Go.Proofs.YtoakhpdeadglpaaGreat.Gen
open Go Go.Abs Go.Proofs Go.Proofs.Tryz
instance cv_Div_i (a0:AI) (a1:AI) (a2:Int) (a3:Int):CC (cv_Div a0 a1 a2 a3) Tryz.prog 98 [(.ptr 0 0),(.agg (kI.enc a0)),(.agg (kI.enc a1))] [(.live 53 [(.int .i64 a2),(.int .i64 a3)])] (fun r=>(.agg (kI.enc (⟨⟨(((r.1).Lo).M),((r.1).Lo).E⟩,⟨(((r.1).Hi).M),((r.1).Hi).E⟩⟩:AI)))) (fun r=>[(.live 53 [(.int .i64 r.2),(.int .i64 a3)])]):=cc func98 (by kernel_rfl) rfl fun E=>by
 unfold cv_Div
 refine .g 14 rfl<|.st rfl (bs kI [a0,a1] rfl rfl) rfl<|.bind fun x11 h1=>.st rfl (cl (CC.h h1) [0] [] [true] rfl (.p rfl<|.l<|.nil) (.p rfl (.i<|.i<|.nil) .nil) fnil (.cons (.v (.i<|.i<|.nil)) .nil) (.bool _) (.turned .nil) rfl) rfl<|.g 3 rfl<|?_
 refine .cd rfl (fun _ _=>?_) fun _ _=>?_
 ·refine .g 8 rfl<|.fi rfl rfl
 ·refine .g 7 rfl<|.p0 rfl rfl fun x12 _=>.g 2 rfl<|?_
  refine .cd rfl (fun _ _=>?_) fun _ _=>?_
  ·refine .g 5 rfl<|.bind fun x13 h7=>.st rfl (cl (CC.h h7) [0] [] [true] rfl (.p rfl<|.i<|.nil) (.p rfl (.i<|.i<|.nil) .nil) fnil (.cons (.v (.i<|.i<|.nil)) .nil) (.bool _) (.turned .nil) rfl) rfl<|.g 10 rfl<|.fi rfl rfl
  ·refine .g 14 rfl<|.bind fun x14 h8=>.st rfl (cl (CC.h h8) [1,0] [5] [false,false,true] rfl (.b<|.p rfl<|.nil) (.p rfl (.p rfl<|.nil) (.p rfl (.i<|.i<|.nil) .nil)) (fresh_cons rfl fnil) (.cons (.v (.p rfl<|.nil)) (.cons (.v (.i<|.i<|.nil)) (.cons (.v (.b<|.nil)) .nil))) (ren_fnL _ .nil (.p rfl<|.p rfl<|.nil)) (.kept rfl (.kept rfl (.turned .nil))) rfl) rfl<|.bind fun x15 h9=>.st rfl (cl (CC.h h9) [0,1,5] [] [true,false,false] rfl (.p rfl<|.a kI<|.a kI<|.cons (ren_fnL _ .nil (.p rfl<|.p rfl<|.nil))<|.nil) (.p rfl (.i<|.i<|.nil) (.p rfl (.p rfl<|.nil) (.p rfl (.b<|.nil) .nil))) fnil (.cons (.v (.i<|.i<|.nil)) (.cons (.v (.p rfl<|.nil)) (.cons (.v (.b<|.nil)) .nil))) (ren_sl _) (.turned (.kept rfl (.kept rfl .nil))) rfl) rfl<|.p0 rfl rfl fun x16 _=>.g 7 rfl<|.dn (by kernel_rfl)<|.g 7 rfl<|.bind fun x17 h11=>.st rfl (cl (CC.h h11) [1,0] [8] [false,false,true] rfl (.b<|.p rfl<|.nil) (.p rfl (.p rfl<|.nil) (.p rfl (.i<|.i<|.nil) .nil)) (fresh_cons rfl fnil) (.cons (.v (.p rfl<|.nil)) (.cons (.v (.i<|.i<|.nil)) (.cons (.v (.b<|.nil)) .nil))) (ren_fnL _ .nil (.p rfl<|.p rfl<|.nil)) (.kept rfl (.kept rfl (.turned .nil))) rfl) rfl<|.bind fun x18 h12=>.st rfl (cl (CC.h h12) [0,1,8] [] [true,false,false] rfl (.p rfl<|.a kI<|.a kI<|.cons (ren_fnL _ .nil (.p rfl<|.p rfl<|.nil))<|.nil) (.p rfl (.i<|.i<|.nil) (.p rfl (.p rfl<|.nil) (.p rfl (.b<|.nil) .nil))) fnil (.cons (.v (.i<|.i<|.nil)) (.cons (.v (.p rfl<|.nil)) (.cons (.v (.b<|.nil)) .nil))) (ren_sl _) (.turned (.kept rfl (.kept rfl .nil))) rfl) rfl<|.p0 rfl rfl fun x19 _=>?_
   refine .g 7 rfl<|.dn (by kernel_rfl)<|.g 6 rfl<|.bind fun x20 h14=>.st rfl (cl (CC.h h14) [0] [] [false] rfl (.p rfl<|.a kD<|.a kD<|.nil) (.p rfl (.i<|.i<|.nil) .nil) fnil (.cons (.v (.i<|.i<|.nil)) .nil) (ren_agg (K:=kI) _) (.kept rfl .nil) rfl) rfl<|.g 4 rfl<|.fi rfl rfl
instance dyad_Make_i (a0:ApiInt) (a1:Int):PC (dyad_Make a0 a1) Tryz.prog 83 [(.agg (kN.enc a0)),(.int .i64 a1)] (fun r=>(.tup [(.agg (kD.enc (⟨((r.1).M),(r.1).E⟩:AD))),(.bool r.2)])):=pc func83 (by kernel_rfl) rfl fun E=>by
 unfold dyad_Make
 refine .g 11 rfl<|.p0 rfl rfl fun x4 _=>.g 3 rfl<|?_
 refine .cd rfl (fun _ _=>?_) fun _ _=>?_
 ·refine .g 9 rfl<|.fi rfl rfl
 ·refine .g 9 rfl<|.p0 rfl rfl fun x5 _=>.g 8 rfl<|.p0 rfl rfl fun x6 _=>.g 3 rfl<|?_
  refine .cd rfl (fun _ _=>?_) fun _ _=>?_
  ·refine .g 9 rfl<|.fi rfl rfl
  ·refine .g 10 rfl<|.fi rfl rfl
instance dyad_Half_i (a0:Int):PC (dyad_Half a0) Tryz.prog 50 [(.int .i64 a0)] (fun r=>(.agg (kD.enc (⟨((r).M),(r).E⟩:AD)))):=pc func50 (by kernel_rfl) rfl fun E=>by
 unfold dyad_Half
 refine .g 7 rfl<|.p0 rfl rfl fun x3 _=>.g 1 rfl<|.p0 rfl rfl fun x4 _=>.g 15 rfl<|.fi rfl rfl
instance cv_Neg_i (a0:AI) (a1:Int) (a2:Int):CC (cv_Neg a0 a1 a2) Tryz.prog 94 [(.ptr 0 0),(.agg (kI.enc a0))] [(.live 53 [(.int .i64 a1),(.int .i64 a2)])] (fun r=>(.agg (kI.enc (⟨⟨(((r.1).Lo).M),((r.1).Lo).E⟩,⟨(((r.1).Hi).M),((r.1).Hi).E⟩⟩:AI)))) (fun r=>[(.live 53 [(.int .i64 r.2),(.int .i64 a2)])]):=cc func94 (by kernel_rfl) rfl fun E=>by
 unfold cv_Neg
 refine .g 11 rfl<|.st rfl (bs kI [a0] rfl rfl) rfl<|.bind fun x4 h1=>.st rfl (cl (CC.h h1) [0] [] [true] rfl (.p rfl<|.l<|.nil) (.p rfl (.i<|.i<|.nil) .nil) fnil (.cons (.v (.i<|.i<|.nil)) .nil) (.bool _) (.turned .nil) rfl) rfl<|.g 3 rfl<|?_
 refine .cd rfl (fun _ _=>?_) fun _ _=>?_
 ·refine .g 8 rfl<|.fi rfl rfl
 ·refine .g 6 rfl<|.p0 rfl rfl fun x5 _=>.g 2 rfl<|.p0 rfl rfl fun x6 _=>.g 2 rfl<|.dn (by kernel_rfl)<|.g 2 rfl<|.fi rfl rfl
instance iv_trouble_Err_i (a0:Int) (a1:Int):CC (iv_trouble_Err a0 a1) Tryz.prog 28 [(.ptr 0 0)] [(.live 53 [(.int .i64 a0),(.int .i64 a1)])] (fun r=>(.int .i64 r)) (fun r=>[(.live 53 [(.int .i64 a0),(.int .i64 a1)])]):=cc func28 (by kernel_rfl) rfl fun E=>by
 unfold iv_trouble_Err
 refine .g 15 rfl<|.fi rfl rfl
instance iv_In_i (a0:AI) (a1:AI):PC (iv_In a0 a1) Tryz.prog 326 [(.agg (kI.enc a0)),(.agg (kI.enc a1))] (fun r=>(.bool r)):=pc func326 (by kernel_rfl) rfl fun E=>by
 unfold iv_In
 refine .g 8 rfl<|?_
 refine .cut (fun x:Bool=>(iv_In_j1 x,[eB 4 x],[])) ?_ ?_
 ·rintro y11
  dsimp only [iv_In_j1]
  refine .g 2 rfl<|.fi rfl rfl
 ·intro h6
  refine .g 2 rfl<|.p0 rfl rfl fun x12 _=>.g 1 rfl<|?_
  refine .gd 7 rfl (fun _=>?_) fun _=>?_
  ·refine .g 3 rfl<|.p0 rfl rfl fun x13 _=>.g 2 rfl<|?_
   refine .gd 13 rfl (fun _=>?_) fun _=>?_
   ·refine .g 3 rfl<|.p0 rfl rfl fun x14 _=>.g 3 rfl<|.jw (h6 x14) [] rfl
   ·refine .g 7 rfl<|.jw (h6 false) [] rfl
  ·refine .g 13 rfl<|.jw (h6 false) [] rfl
instance small_in_i (a0:AI) (a1:Int) (a2:Int) (a3:Int):CC (small_in a0 a1 a2 a3) Tryz.prog 270 [(.ptr 0 0),(.agg (kI.enc a0)),(.int .i64 a1)] [(.live 53 [(.int .i64 a2),(.int .i64 a3)])] (fun r=>(.bool r.1)) (fun r=>[(.live 53 [(.int .i64 r.2),(.int .i64 a3)])]):=cc func270 (by kernel_rfl) rfl fun E=>by
 unfold small_in
 refine .g 9 rfl<|.p0 rfl rfl fun x9 _=>.g 8 rfl<|.bind fun x10 h2=>.st rfl (cl (CC.h h2) [0] [] [true] rfl (.p rfl<|.a kI<|.nil) (.p rfl (.i<|.i<|.nil) .nil) fnil (.cons (.v (.i<|.i<|.nil)) .nil) (ren_agg (K:=kI) _) (.turned .nil) rfl) rfl<|.g 8 rfl<|.bind fun x11 h3=>.st rfl (cl (CC.h h3) [0] [] [false] rfl (.p rfl<|.nil) (.p rfl (.i<|.i<|.nil) .nil) fnil (.cons (.v (.i<|.i<|.nil)) .nil) (.int _ _) (.kept rfl .nil) rfl) rfl<|.g 3 rfl<|?_
 refine .cd rfl (fun _ _=>?_) fun _ _=>?_
 ·refine .g 7 rfl<|.fi rfl rfl
 ·refine .g 7 rfl<|.p0 rfl rfl fun x12 _=>.g 2 rfl<|.p0 rfl rfl fun x13 _=>.dn (by kernel_rfl)<|.g 1 rfl<|?_
  refine .cd rfl (fun _ _=>?_) fun _ _=>?_
  ·refine .g 7 rfl<|.fi rfl rfl
  ·refine .g 6 rfl<|.bind fun x14 h10=>.st rfl (cl (CC.h h10) [0] [] [true] rfl (.p rfl<|.i<|.nil) (.p rfl (.i<|.i<|.nil) .nil) fnil (.cons (.v (.i<|.i<|.nil)) .nil) (ren_agg (K:=kI) _) (.turned .nil) rfl) rfl<|.g 1 rfl<|.bind fun x15 h11=>.st rfl (cl (CC.h h11) [0] [] [true] rfl (.p rfl<|.i<|.nil) (.p rfl (.i<|.i<|.nil) .nil) fnil (.cons (.v (.i<|.i<|.nil)) .nil) (ren_agg (K:=kI) _) (.turned .nil) rfl) rfl<|.bind fun x16 h12=>.st rfl (cl (CC.h h12) [0] [] [true] rfl (.p rfl<|.a kI<|.a kI<|.nil) (.p rfl (.i<|.i<|.nil) .nil) fnil (.cons (.v (.i<|.i<|.nil)) .nil) (ren_agg (K:=kI) _) (.turned .nil) rfl) rfl<|.g 8 rfl<|.fi rfl rfl
instance nat_Mul_i (a0:List Int) (a1:List Int):PC (nat_Mul a0 a1) Tryz.prog 181 [(slK (kInt .u32) a0),(slK (kInt .u32) a1)] (fun r=>(slK (kInt .u32) r)):=pc func181 (by kernel_rfl) rfl fun E=>by
 unfold nat_Mul
 refine .g 2 rfl<|.st rfl (as0 rfl) rfl<|.g 5 rfl<|.p0 rfl rfl fun x187 _=>.g 1 rfl<|.p0 rfl rfl fun x188 _=>.g 7 rfl<|.ln rfl rfl<|.g 1 rfl<|.ln rfl rfl<|.g 1 rfl<|.guard fun h3=>.sv (.row 0 (kInt .u32).sz 0 (((List.replicate ((IntKind.i64.wrap ((x187.length:Int)+(x188.length:Int))).toNat) (kInt .u32).z)).length)) [(0,(rwK (kInt .u32) 117 (List.replicate ((IntKind.i64.wrap ((x187.length:Int)+(x188.length:Int))).toNat) (kInt .u32).z)))] rfl (snd_makeK (kInt .u32) _ _ _ _ _ 0 _ _ _ rfl underlying22 ze117 sb117 (by decide) rfl rfl rfl rfl rfl h3) rfl<|.g 7 rfl<|?_
 refine .ln rfl rfl<|.g 3 rfl<|?_
 refine .cut (fun x:(List Int)=>(nat_Mul_j1 x,[(5,some (.row 0 (kInt .u32).sz 0 ((x).length)))],[(0,(rwK (kInt .u32) 117 x))])) ?_ ?_
 ·rintro y280
  dsimp only [nat_Mul_j1]
  refine .g 2 rfl<|?_
  refine .weak ?_ (fun a w h=>Conc.freezeK (kInt .u32) h 5 0 0 ((y280).length) 117 y280 rfl rfl (by omega))
  refine .weak ?_ (fun a w h=>take_all h)
  refine .g 2 rfl<|.p0 rfl rfl fun x281 _=>.g 4 rfl<|.fi rfl rfl
 ·intro h311
  refine .g 1 rfl<|?_
  refine .lp (fun n (x:Int × (List Int))=>nat_Mul_l2 x187 x188 n x.1 x.2) (fun x=>([eL 1 x188,(5,some (.row 0 (kInt .u32).sz 0 ((x.2).length))),eL 22 x187,eI 23 (x187.length:Int),eI 24 x.1],[(0,(rwK (kInt .u32) 117 x.2))])) (0,(List.replicate ((IntKind.i64.wrap ((x187.length:Int)+(x188.length:Int))).toNat) (kInt .u32).z)) [(0,0)] rfl ?_
  rintro n2 ⟨y342,y343⟩
  try dsimp only
  rw [nat_Mul_l2]
  refine .g 6 rfl<|?_
  refine .cd rfl (fun _ _=>?_) fun _ _=>?_
  ·refine .g 3 rfl<|?_
   refine .cut (fun x:(List Int)=>(nat_Mul_j3 (fun z0 z1=>nat_Mul_l2 x187 x188 n2 z0 z1) y342 x,[eL 1 x188,(5,some (.row 0 (kInt .u32).sz 0 ((x).length))),eL 22 x187,eI 23 (x187.length:Int),eI 24 y342],[(0,(rwK (kInt .u32) 117 x))])) ?_ ?_
   ·rintro y358
    dsimp only [nat_Mul_j3]
    refine .g 5 rfl<|.ag ((IntKind.i64.wrap (y342+1)),y358) [(0,0)] rfl
   ·intro h568
    refine .g 4 rfl<|.ix rfl rfl<|.g 14 rfl<|.ln rfl rfl<|.g 3 rfl<|?_
    refine .cut (fun x:Int × (List Int)=>(nat_Mul_j4 y342 x188 (fun z0 z1=>nat_Mul_l2 x187 x188 n2 z0 z1) x.1 x.2,[eL 1 x188,(5,some (.row 0 (kInt .u32).sz 0 ((x.2).length))),eI 6 y342,eX 8 x.1,eL 22 x187,eI 23 (x187.length:Int),eI 24 y342],[(0,(rwK (kInt .u32) 117 x.2))])) ?_ ?_
    ·rintro ⟨y365,y366⟩
     dsimp only [nat_Mul_j4]
     refine .g 5 rfl<|.ln rfl rfl<|.g 3 rfl<|.guard fun h594=>?_
     obtain ⟨h5941,h5942⟩:=h594
     refine .sv (.rptr 0 (kInt .u32).sz ((IntKind.i64.wrap (y342+(x188.length:Int))).toNat) 0) [] rfl (idx_r (snd_index_r _ _ _ _ _ 0 0 ((y366).length) _ (IntKind.i64.wrap (y342+(x188.length:Int))) rfl underlying22 si117 rfl rfl rfl rfl h5941 (by omega)) (Nat.zero_add _)) rfl<|.sm [(0,(rwK (kInt .u32) 117 ((y366).set ((IntKind.i64.wrap (y342+(x188.length:Int))).toNat) (IntKind.u32.wrap y365))))] rfl (snd_storeK_sca (kInt .u32) _ _ _ 0 ((IntKind.i64.wrap (y342+(x188.length:Int))).toNat) _ _ (IntKind.u32.wrap y365) _ rfl rfl rfl sc117 rfl rfl rfl rfl rfl rfl (by first | omega | (simp only [List.length_set]; omega))) rfl<|?_
     refine .weak ?_ (fun a w h=>Conc.relen h 5 ((((y366).set ((IntKind.i64.wrap (y342+(x188.length:Int))).toNat) (IntKind.u32.wrap y365))).length) rfl List.length_set.symm)
     refine .g 2 rfl<|.jw (h568 ((y366).set ((IntKind.i64.wrap (y342+(x188.length:Int))).toNat) (IntKind.u32.wrap y365))) [(0,0)] rfl
    ·intro h595
     refine .g 1 rfl<|?_
     refine .lp (fun n (x:Int × Int × (List Int))=>nat_Mul_l5 x188 y342 x187 (fun z0 z1=>nat_Mul_l2 x187 x188 n2 z0 z1) n x.1 x.2.1 x.2.2) (fun x=>([eL 1 x188,(5,some (.row 0 (kInt .u32).sz 0 ((x.2.2).length))),eI 6 y342,eW 7 (x187.getD y342.toNat (kInt .u32).z),eX 8 x.1,eL 22 x187,eI 23 (x187.length:Int),eI 24 y342,eL 29 x188,eI 30 (x188.length:Int),eI 31 x.2.1],[(0,(rwK (kInt .u32) 117 x.2.2))])) (0,0,y343) [(0,0)] rfl ?_
     rintro n5 ⟨y370,y371,y372⟩
     try dsimp only
     rw [nat_Mul_l5]
     refine .g 6 rfl<|?_
     refine .cd rfl (fun _ _=>?_) fun _ _=>?_
     ·refine .g 7 rfl<|.ix rfl rfl<|.g 16 rfl<|.guard fun h618=>?_
      obtain ⟨h6181,h6182⟩:=h618
      refine .sv (.rptr 0 (kInt .u32).sz ((IntKind.i64.wrap (y342+y371)).toNat) 0) [] rfl (idx_r (snd_index_r _ _ _ _ _ 0 0 ((y372).length) _ (IntKind.i64.wrap (y342+y371)) rfl underlying22 si117 rfl rfl rfl rfl h6181 (by omega)) (Nat.zero_add _)) rfl<|.sv (.int .u32 ((y372).getD ((IntKind.i64.wrap (y342+y371)).toNat) (kInt .u32).z)) [] rfl (snd_loadK_sca (kInt .u32) _ _ 0 ((IntKind.i64.wrap (y342+y371)).toNat) 0 _ _ rfl sc117 rfl rfl rfl rfl (by first | omega | (simp only [List.length_set]; omega)) (by decide)) rfl<|.g 16 rfl<|.guard fun h619=>?_
      obtain ⟨h6191,h6192⟩:=h619
      refine .sv (.rptr 0 (kInt .u32).sz ((IntKind.i64.wrap (y342+y371)).toNat) 0) [] rfl (idx_r (snd_index_r _ _ _ _ _ 0 0 ((y372).length) _ (IntKind.i64.wrap (y342+y371)) rfl underlying22 si117 rfl rfl rfl rfl h6191 (by omega)) (Nat.zero_add _)) rfl<|.sm [(0,(rwK (kInt .u32) 117 ((y372).set ((IntKind.i64.wrap (y342+y371)).toNat) (IntKind.u32.wrap (IntKind.u64.wrap ((IntKind.u64.wrap ((IntKind.u64.wrap ((IntKind.u64.wrap (x187.getD y342.toNat (kInt .u32).z))*(IntKind.u64.wrap (x188.getD y371.toNat (kInt .u32).z))))+(IntKind.u64.wrap ((y372).getD ((IntKind.i64.wrap (y342+y371)).toNat) (kInt .u32).z))))+y370))))))] rfl (snd_storeK_sca (kInt .u32) _ _ _ 0 ((IntKind.i64.wrap (y342+y371)).toNat) _ _ (IntKind.u32.wrap (IntKind.u64.wrap ((IntKind.u64.wrap ((IntKind.u64.wrap ((IntKind.u64.wrap (x187.getD y342.toNat (kInt .u32).z))*(IntKind.u64.wrap (x188.getD y371.toNat (kInt .u32).z))))+(IntKind.u64.wrap ((y372).getD ((IntKind.i64.wrap (y342+y371)).toNat) (kInt .u32).z))))+y370))) _ rfl rfl rfl sc117 rfl rfl rfl rfl rfl rfl (by first | omega | (simp only [List.length_set]; omega))) rfl<|?_
      refine .weak ?_ (fun a w h=>Conc.relen h 5 ((((y372).set ((IntKind.i64.wrap (y342+y371)).toNat) (IntKind.u32.wrap (IntKind.u64.wrap ((IntKind.u64.wrap ((IntKind.u64.wrap ((IntKind.u64.wrap (x187.getD y342.toNat (kInt .u32).z))*(IntKind.u64.wrap (x188.getD y371.toNat (kInt .u32).z))))+(IntKind.u64.wrap ((y372).getD ((IntKind.i64.wrap (y342+y371)).toNat) (kInt .u32).z))))+y370))))).length) rfl List.length_set.symm)
      refine .g 8 rfl<|.ag ((shrI .u64 (IntKind.u64.wrap ((IntKind.u64.wrap ((IntKind.u64.wrap ((IntKind.u64.wrap (x187.getD y342.toNat (kInt .u32).z))*(IntKind.u64.wrap (x188.getD y371.toNat (kInt .u32).z))))+(IntKind.u64.wrap ((y372).getD ((IntKind.i64.wrap (y342+y371)).toNat) (kInt .u32).z))))+y370)) 32),(IntKind.i64.wrap (y371+1)),((y372).set ((IntKind.i64.wrap (y342+y371)).toNat) (IntKind.u32.wrap (IntKind.u64.wrap ((IntKind.u64.wrap ((IntKind.u64.wrap ((IntKind.u64.wrap (x187.getD y342.toNat (kInt .u32).z))*(IntKind.u64.wrap (x188.getD y371.toNat (kInt .u32).z))))+(IntKind.u64.wrap ((y372).getD ((IntKind.i64.wrap (y342+y371)).toNat) (kInt .u32).z))))+y370))))) [(0,0)] rfl
     ·refine .g 4 rfl<|.jw (h595 (y370,y372)) [(0,0)] rfl
  ·refine .g 4 rfl<|.jw (h311 y343) [(0,0)] rfl
instance dyad_Mul_i (a0:AD) (a1:AD):PC (dyad_Mul a0 a1) Tryz.prog 86 [(.agg (kD.enc a0)),(.agg (kD.enc a1))] (fun r=>(.tup [(.agg (kD.enc (⟨((r.1).M),(r.1).E⟩:AD))),(.int .i64 r.2)])):=pc func86 (by kernel_rfl) rfl fun E=>by
 unfold dyad_Mul
 refine .g 21 rfl<|.st rfl (bs kD [a0,a1] rfl rfl) rfl<|.bind fun x10 h1=>.st rfl (cl (CC.h h1) [3] [] [true] rfl (.p rfl<|.l<|.nil) (.p rfl (.i<|.b<|.l<|.i<|.nil) .nil) fnil (.cons (.v (.i<|.b<|.l<|.i<|.nil)) .nil) (.bool _) (.turned .nil) rfl) rfl<|.g 2 rfl<|?_
 refine .cut (fun x:Bool × (List Int) × Int=>(dyad_Mul_j1 x10 x.1 x.2.1 x.2.2,[eP 4 2,eP 6 3],[(2,(.live 26 [(.bool false),(slK (kInt .u32) []),(.int .i64 0)])),(3,(.live 174 [(.int .i64 x10.2),(.bool x.1),(slK (kInt .u32) x.2.1),(.int .i64 x.2.2)]))])) ?_ ?_
 ·rintro ⟨y13,y14,y15⟩
  dsimp only [dyad_Mul_j1]
  refine .g 4 rfl<|.bind fun x16 h6=>.st rfl (cl (CC.h h6) [3] [] [true] rfl (.p rfl<|.nil) (.p rfl (.i<|.b<|.l<|.i<|.nil) .nil) fnil (.cons (.v (.i<|.b<|.l<|.i<|.nil)) .nil) (ren_tupL (.a kD<|.i<|.nil)) (.turned .nil) rfl) rfl<|.g 7 rfl<|.fi rfl rfl
 ·intro h7
  refine .cd rfl (fun _ _=>?_) fun _ _=>?_
  ·refine .g 15 rfl<|.p0 rfl rfl fun x17 _=>.g 5 rfl<|.p0 rfl rfl fun x18 _=>.g 3 rfl<|.dn (by kernel_rfl)<|.jw (h7 (((x18).M).Neg,((x18).M).Mag,(x18).E)) [(2,2),(3,3)] rfl
  ·refine .g 1 rfl<|.jw (h7 (false,[],0)) [(2,2),(3,3)] rfl
instance cv_four_6ec2_i (a0:AI) (a1:AI) (a2:Int) (a3:Int):CC (cv_four_6ec2 a0 a1 a2 a3) Tryz.prog 89 [(.ptr 0 0),(.agg (kI.enc a0)),(.agg (kI.enc a1)),(.fn 86 [] [])] [(.live 53 [(.int .i64 a2),(.int .i64 a3)])] (fun r=>(slK kD r.1)) (fun r=>[(.live 53 [(.int .i64 r.2),(.int .i64 a3)])]):=cc func89 (by kernel_rfl) rfl fun E=>by
 unfold cv_four_6ec2
 refine .g 13 rfl<|.st rfl (bs kD [a0.Lo,a0.Hi] rfl rfl) rfl<|.g 4 rfl<|.st rfl (bs kD [a1.Lo,a1.Hi] rfl rfl) rfl<|.g 2 rfl<|.dn (by kernel_rfl)<|.g 8 rfl<|.p0 rfl rfl fun x487 _=>.g 3 rfl<|?_
 refine .cut (fun x:(List AD)=>(cv_four_6ec2_j1 a1 a3 a2 x,[eP 0 0,(3,some (.fn 86 [] [])),eP 6 2,eK kD 9 x,eK kD 10 [a1.Lo,a1.Hi]],[(0,(.live 53 [(.int .i64 a2),(.int .i64 a3)])),(2,(.live 30 [(.bool a1.Lo.M.Neg),(slK (kInt .u32) a1.Lo.M.Mag),(.int .i64 a1.Lo.E),(.bool a1.Hi.M.Neg),(slK (kInt .u32) a1.Hi.M.Mag),(.int .i64 a1.Hi.E)]))])) ?_ ?_
 ·rintro y488
  dsimp only [cv_four_6ec2_j1]
  refine .g 8 rfl<|.p0 rfl rfl fun x489 _=>.g 3 rfl<|?_
  refine .cut (fun x:(List AD)=>(cv_four_6ec2_j2 y488 a3 a2 x,[eP 0 0,(3,some (.fn 86 [] [])),eK kD 9 y488,eK kD 10 x],[(0,(.live 53 [(.int .i64 a2),(.int .i64 a3)]))])) ?_ ?_
  ·rintro y490
   dsimp only [cv_four_6ec2_j2]
   refine .g 10 rfl<|.ln rfl rfl<|.g 3 rfl<|?_
   refine .cut (fun x:Int × (List AD)=>(cv_four_6ec2_j3 x.1 x.2,[(11,some (grA kD 1 x.2))],[(0,(.live 53 [(.int .i64 x.1),(.int .i64 a3)])),(1,(grV kD 26 x.2))])) ?_ ?_
   ·rintro ⟨y731,y732⟩
    dsimp only [cv_four_6ec2_j3]
    refine .g 8 rfl<|?_
    refine .weak ?_ (fun a w h=>Conc.gr_still kD h 8 1 26 y732 rfl rfl)
    exact .fi rfl rfl
   ·intro h381
    refine .g 1 rfl<|?_
    refine .weak ?_ (fun a w h=>Conc.gr_nil kD h 11 1 26 rfl)
    refine .lo (fun n (x:Int × Int × (List AD))=>cv_four_6ec2_l4 y488 y490 a3 n x.1 x.2.1 x.2.2) (fun x=>([eP 0 0,(3,some (.fn 86 [] [])),eK kD 10 y490,(11,some (grA kD 1 x.2.2)),eK kD 42 y488,eI 43 (y488.length:Int),eI 44 x.1],[(0,(.live 53 [(.int .i64 x.2.1),(.int .i64 a3)])),(1,(grV kD 26 x.2.2))])) (0,a2,[]) rfl (fun hE=>jn (m:=1) [(0,0),(1,1)] hE (.p rfl rfl<|.g rfl (ren_fnL _ .nil .nil)<|.l rfl<|.g rfl (ren_gr (K:=kD) (by rfl) [])<|.l rfl<|.i rfl<|.i rfl<|.nil) (.v rfl (.i<|.i<|.nil)<|.cons (.refl _) (renV_gr (K:=kD) 26 [])<|.nil) rfl) ?_
    rintro n4 ⟨y892,y893,y894⟩
    try dsimp only
    rw [cv_four_6ec2_l4]
    refine .g 6 rfl<|?_
    refine .cd rfl (fun _ _=>?_) fun _ _=>?_
    ·refine .g 3 rfl<|?_
     refine .cut (fun x:Int × (List AD)=>(cv_four_6ec2_j5 (fun z0 z1 z2=>cv_four_6ec2_l4 y488 y490 a3 n4 z0 z1 z2) y892 x.1 x.2,[eP 0 0,(3,some (.fn 86 [] [])),eK kD 10 y490,(11,some (grA kD 1 x.2)),eK kD 42 y488,eI 43 (y488.length:Int),eI 44 y892],[(0,(.live 53 [(.int .i64 x.1),(.int .i64 a3)])),(1,(grV kD 26 x.2))])) ?_ ?_
     ·rintro ⟨y933,y934⟩
      dsimp only [cv_four_6ec2_j5]
      refine .g 5 rfl<|.ao ((IntKind.i64.wrap (y892+1)),y933,y934) rfl fun hE=>jn (m:=1) [(0,0),(1,1)] hE (.p rfl rfl<|.g rfl (ren_fnL _ .nil .nil)<|.l rfl<|.g rfl (ren_gr (K:=kD) (by rfl) y934)<|.l rfl<|.i rfl<|.i rfl<|.nil) (.v rfl (.i<|.i<|.nil)<|.cons (.refl _) (renV_gr (K:=kD) 26 y934)<|.nil) rfl
     ·intro h693
      refine .g 3 rfl<|.ix rfl rfl<|.g 8 rfl<|.ln rfl rfl<|.g 3 rfl<|?_
      refine .cut (fun x:Int × (List AD)=>(cv_four_6ec2_j6 (fun z0 z1 z2=>cv_four_6ec2_l4 y488 y490 a3 n4 z0 z1 z2) y892 x.1 x.2,[eP 0 0,(3,some (.fn 86 [] [])),eK kD 10 y490,(11,some (grA kD 1 x.2)),eK kD 42 y488,eI 43 (y488.length:Int),eI 44 y892],[(0,(.live 53 [(.int .i64 x.1),(.int .i64 a3)])),(1,(grV kD 26 x.2))])) ?_ ?_
      ·rintro ⟨y953,y954⟩
       dsimp only [cv_four_6ec2_j6]
       refine .g 1 rfl<|.jo (h693 (y953,y954)) rfl fun hE=>jn (m:=1) [(0,0),(1,1)] hE (.p rfl rfl<|.g rfl (ren_fnL _ .nil .nil)<|.l rfl<|.g rfl (ren_gr (K:=kD) (by rfl) y954)<|.l rfl<|.i rfl<|.i rfl<|.nil) (.v rfl (.i<|.i<|.nil)<|.cons (.refl _) (renV_gr (K:=kD) 26 y954)<|.nil) rfl
      ·intro h725
       refine .g 1 rfl<|?_
       refine .lo (fun n (x:Int × Int × (List AD))=>cv_four_6ec2_l7 y490 y488 y892 a3 (fun z0 z1 z2=>cv_four_6ec2_l4 y488 y490 a3 n4 z0 z1 z2) n x.1 x.2.1 x.2.2) (fun x=>([eP 0 0,(3,some (.fn 86 [] [])),eK kD 10 y490,(11,some (grA kD 1 x.2.2)),eP 13 2,eK kD 42 y488,eI 43 (y488.length:Int),eI 44 y892,eK kD 48 y490,eI 49 (y490.length:Int),eI 50 x.1],[(0,(.live 53 [(.int .i64 x.2.1),(.int .i64 a3)])),(1,(grV kD 26 x.2.2)),(2,(.live 26 [(.bool (((y488.getD y892.toNat zAD).M).Neg)),(slK (kInt .u32) (((y488.getD y892.toNat zAD).M).Mag)),(.int .i64 ((y488.getD y892.toNat zAD).E))]))])) (0,y893,y894) rfl (fun hE=>jn (m:=1) [(0,0),(1,1),(2,2)] hE (.p rfl rfl<|.g rfl (ren_fnL _ .nil .nil)<|.l rfl<|.g rfl (ren_gr (K:=kD) (by rfl) y894)<|.p rfl rfl<|.l rfl<|.i rfl<|.i rfl<|.l rfl<|.i rfl<|.i rfl<|.nil) (.v rfl (.i<|.i<|.nil)<|.cons (.refl _) (renV_gr (K:=kD) 26 y894)<|.v rfl (.b<|.l<|.i<|.nil)<|.nil) rfl) ?_
       rintro n7 ⟨y966,y967,y968⟩
       try dsimp only
       rw [cv_four_6ec2_l7]
       refine .g 6 rfl<|?_
       refine .cd rfl (fun _ _=>?_) fun _ _=>?_
       ·refine .g 6 rfl<|.ix rfl rfl<|.g 11 rfl<|.p0 rfl rfl fun x971 _=>.g 2 rfl<|.bind fun x972 h754=>.st rfl (cl (CC.h h754) [0] [] [true] rfl (.p rfl<|.a kD<|.i<|.nil) (.p rfl (.i<|.i<|.nil) .nil) fnil (.cons (.v (.i<|.i<|.nil)) .nil) (ren_agg (K:=kD) _) (.turned .nil) rfl) rfl<|.st rfl (bs kD [(⟨((x972.1).M),(x972.1).E⟩:AD)] rfl rfl) rfl<|.guard fun h755=>.sv (.row 4 kD.sz 0 (((y968++[(⟨((x972.1).M),(x972.1).E⟩:AD)])).length)) [(4,(rwK kD 26 (y968++[(⟨((x972.1).M),(x972.1).E⟩:AD)]))),(1,.dead)] rfl (snd_appendK_gr kD _ _ _ _ _ 1 4 y968 [(⟨((x972.1).M),(x972.1).E⟩:AD)] rfl underlying67 ze26 sb26 rfl rfl rfl rfl rfl rfl rfl h755) rfl<|.g 8 rfl<|?_
        refine .weak ?_ (fun a w h=>Conc.gr_row kD h 11 4 26 (y968++[(⟨((x972.1).M),(x972.1).E⟩:AD)]) rfl rfl (by first | omega | (simp only [List.length_append,List.length_cons,List.length_set]; omega) | simp))
        exact .ao ((IntKind.i64.wrap (y966+1)),x972.2,(y968++[(⟨((x972.1).M),(x972.1).E⟩:AD)])) rfl fun hE=>jn (m:=1) [(0,0),(4,1),(2,2)] hE (.p rfl rfl<|.g rfl (ren_fnL _ .nil .nil)<|.l rfl<|.g rfl (ren_gr (K:=kD) (by rfl) (y968++[(⟨((x972.1).M),(x972.1).E⟩:AD)]))<|.p rfl rfl<|.l rfl<|.i rfl<|.i rfl<|.l rfl<|.i rfl<|.i rfl<|.nil) (.v rfl (.i<|.i<|.nil)<|.cons (.refl _) (renV_gr (K:=kD) 26 (y968++[(⟨((x972.1).M),(x972.1).E⟩:AD)]))<|.v rfl (.b<|.l<|.i<|.nil)<|.nil) rfl
       ·refine .g 4 rfl<|.jo (h725 (y967,y968)) rfl fun hE=>jn (m:=1) [(0,0),(1,1)] hE (.p rfl rfl<|.g rfl (ren_fnL _ .nil .nil)<|.l rfl<|.g rfl (ren_gr (K:=kD) (by rfl) y968)<|.l rfl<|.i rfl<|.i rfl<|.nil) (.v rfl (.i<|.i<|.nil)<|.cons (.refl _) (renV_gr (K:=kD) 26 y968)<|.nil) rfl
    ·refine .g 4 rfl<|.jo (h381 (y893,y894)) rfl fun hE=>jn (m:=1) [(0,0),(1,1)] hE (.g rfl (ren_gr (K:=kD) (by rfl) y894)<|.nil) (.v rfl (.i<|.i<|.nil)<|.cons (.refl _) (renV_gr (K:=kD) 26 y894)<|.nil) rfl
  ·intro h756
   refine .cd rfl (fun _ _=>?_) fun _ _=>?_
   ·refine .g 2 rfl<|.guard fun h759=>.sv (slK kD ([a1.Lo,a1.Hi].take 1)) [] rfl (snd_sliceK kD _ _ _ _ _ _ 0 1 rfl underlying67 si26 rfl rfl rfl rfl rfl h759) rfl<|.g 2 rfl<|.jw (h756 ([a1.Lo,a1.Hi].take 1)) [(0,0)] rfl
   ·refine .g 1 rfl<|.jw (h756 [a1.Lo,a1.Hi]) [(0,0)] rfl
 ·intro h760
  refine .cd rfl (fun _ _=>?_) fun _ _=>?_
  ·refine .g 2 rfl<|.guard fun h763=>.sv (slK kD ([a0.Lo,a0.Hi].take 1)) [] rfl (snd_sliceK kD _ _ _ _ _ _ 0 1 rfl underlying67 si26 rfl rfl rfl rfl rfl h763) rfl<|.g 2 rfl<|.jw (h760 ([a0.Lo,a0.Hi].take 1)) [(0,0),(2,2)] rfl
  ·refine .g 1 rfl<|.jw (h760 [a0.Lo,a0.Hi]) [(0,0),(2,2)] rfl
instance dyad_Round_i (a0:AD) (a1:Int) (a2:Bool):PC (dyad_Round a0 a1 a2) Tryz.prog 187 [(.agg (kD.enc a0)),(.int .i64 a1),(.bool a2)] (fun r=>(.tup [(.agg (kD.enc (⟨((r.1).M),(r.1).E⟩:AD))),(.int .i64 r.2)])):=pc func187 (by kernel_rfl) rfl fun E=>by
 unfold dyad_Round
 refine .g 16 rfl<|?_
 refine .cut (fun x:Bool × Int=>(dyad_Round_j1 a0 a1 a2 x.1 x.2,[eI 1 a1,eB 2 a2,eP 3 0,eP 6 1,eP 8 2,eB 19 x.1],[(0,(.live 26 [(.bool a0.M.Neg),(slK (kInt .u32) a0.M.Mag),(.int .i64 a0.E)])),(1,(.live 26 [(.bool false),(slK (kInt .u32) []),(.int .i64 0)])),(2,(.live 174 [(.int .i64 x.2),(.bool false),(slK (kInt .u32) []),(.int .i64 0)]))])) ?_ ?_
 ·rintro ⟨y15,y16⟩
  dsimp only [dyad_Round_j1]
  refine .g 1 rfl<|?_
  refine .cut (fun x:Bool × (List Int) × Int=>(dyad_Round_j2 y16 x.1 x.2.1 x.2.2,[eP 6 1,eP 8 2],[(1,(.live 26 [(.bool false),(slK (kInt .u32) []),(.int .i64 0)])),(2,(.live 174 [(.int .i64 y16),(.bool x.1),(slK (kInt .u32) x.2.1),(.int .i64 x.2.2)]))])) ?_ ?_
  ·rintro ⟨y18,y19,y20⟩
   dsimp only [dyad_Round_j2]
   refine .g 4 rfl<|.bind fun x21 h7=>.st rfl (cl (CC.h h7) [2] [] [true] rfl (.p rfl<|.nil) (.p rfl (.i<|.b<|.l<|.i<|.nil) .nil) fnil (.cons (.v (.i<|.b<|.l<|.i<|.nil)) .nil) (ren_tupL (.a kD<|.i<|.nil)) (.turned .nil) rfl) rfl<|.g 7 rfl<|.fi rfl rfl
  ·intro h8
   refine .cd rfl (fun _ _=>?_) fun _ _=>?_
   ·refine .g 16 rfl<|.bind fun x22 h11=>.st rfl (cl (CC.h h11) [2] [] [true] rfl (.p rfl<|.b<|.l<|.i<|.b<|.i<|.b<|.nil) (.p rfl (.i<|.b<|.l<|.i<|.nil) .nil) fnil (.cons (.v (.i<|.b<|.l<|.i<|.nil)) .nil) (ren_tupL .nil) (.turned .nil) rfl) rfl<|.g 1 rfl<|.jw (h8 (x22.1,x22.2.1,x22.2.2)) [(1,1),(2,2)] rfl
   ·refine .g 1 rfl<|.jw (h8 (false,[],0)) [(1,1),(2,2)] rfl
 ·intro h12
  refine .g 3 rfl<|.st rfl (bs kD [a0] rfl rfl) rfl<|.bind fun x23 h13=>.st rfl (cl (CC.h h13) [2] [] [true] rfl (.p rfl<|.l<|.nil) (.p rfl (.i<|.b<|.l<|.i<|.nil) .nil) fnil (.cons (.v (.i<|.b<|.l<|.i<|.nil)) .nil) (.bool _) (.turned .nil) rfl) rfl<|.g 1 rfl<|?_
  refine .gd 15 rfl (fun _=>?_) fun _=>?_
  ·refine .g 2 rfl<|.bind fun x24 h15=>.st rfl (cl (CC.h h15) [2] [] [true] rfl (.p rfl<|.i<|.nil) (.p rfl (.i<|.b<|.l<|.i<|.nil) .nil) fnil (.cons (.v (.i<|.b<|.l<|.i<|.nil)) .nil) (.bool _) (.turned .nil) rfl) rfl<|.g 2 rfl<|.jw (h12 (x24.1,x24.2)) [(0,0),(1,1),(2,2)] rfl
  ·refine .g 5 rfl<|.jw (h12 (false,x23.2)) [(0,0),(1,1),(2,2)] rfl
instance cv_down_i (a0:AD) (a1:Int) (a2:Int):CC (cv_down a0 a1 a2) Tryz.prog 90 [(.ptr 0 0),(.agg (kD.enc a0))] [(.live 53 [(.int .i64 a1),(.int .i64 a2)])] (fun r=>(.agg (kD.enc (⟨((r.1).M),(r.1).E⟩:AD)))) (fun r=>[(.live 53 [(.int .i64 r.2),(.int .i64 a2)])]):=cc func90 (by kernel_rfl) rfl fun E=>by
 unfold cv_down
 refine .g 17 rfl<|?_
 refine .cd rfl (fun _ _=>?_) fun _ _=>?_
 ·refine .g 8 rfl<|.fi rfl rfl
 ·refine .g 10 rfl<|.p0 rfl rfl fun x3 _=>.g 2 rfl<|.bind fun x4 h4=>.st rfl (cl (CC.h h4) [0] [] [true] rfl (.p rfl<|.a kD<|.i<|.nil) (.p rfl (.i<|.i<|.nil) .nil) fnil (.cons (.v (.i<|.i<|.nil)) .nil) (ren_agg (K:=kD) _) (.turned .nil) rfl) rfl<|.g 1 rfl<|.dn (by kernel_rfl)<|.g 2 rfl<|.fi rfl rfl
instance cv_up_i (a0:AD) (a1:Int) (a2:Int):CC (cv_up a0 a1 a2) Tryz.prog 92 [(.ptr 0 0),(.agg (kD.enc a0))] [(.live 53 [(.int .i64 a1),(.int .i64 a2)])] (fun r=>(.agg (kD.enc (⟨((r.1).M),(r.1).E⟩:AD)))) (fun r=>[(.live 53 [(.int .i64 r.2),(.int .i64 a2)])]):=cc func92 (by kernel_rfl) rfl fun E=>by
 unfold cv_up
 refine .g 17 rfl<|?_
 refine .cd rfl (fun _ _=>?_) fun _ _=>?_
 ·refine .g 8 rfl<|.fi rfl rfl
 ·refine .g 10 rfl<|.p0 rfl rfl fun x3 _=>.g 2 rfl<|.bind fun x4 h4=>.st rfl (cl (CC.h h4) [0] [] [true] rfl (.p rfl<|.a kD<|.i<|.nil) (.p rfl (.i<|.i<|.nil) .nil) fnil (.cons (.v (.i<|.i<|.nil)) .nil) (ren_agg (K:=kD) _) (.turned .nil) rfl) rfl<|.g 1 rfl<|.dn (by kernel_rfl)<|.g 2 rfl<|.fi rfl rfl
instance cv_Mul_i (a0:AI) (a1:AI) (a2:Int) (a3:Int):CC (cv_Mul a0 a1 a2 a3) Tryz.prog 32 [(.ptr 0 0),(.agg (kI.enc a0)),(.agg (kI.enc a1))] [(.live 53 [(.int .i64 a2),(.int .i64 a3)])] (fun r=>(.agg (kI.enc (⟨⟨(((r.1).Lo).M),((r.1).Lo).E⟩,⟨(((r.1).Hi).M),((r.1).Hi).E⟩⟩:AI)))) (fun r=>[(.live 53 [(.int .i64 r.2),(.int .i64 a3)])]):=cc func32 (by kernel_rfl) rfl fun E=>by
 unfold cv_Mul
 refine .g 13 rfl<|.st rfl (bs kI [a0,a1] rfl rfl) rfl<|.bind fun x7 h1=>.st rfl (cl (CC.h h1) [0] [] [true] rfl (.p rfl<|.l<|.nil) (.p rfl (.i<|.i<|.nil) .nil) fnil (.cons (.v (.i<|.i<|.nil)) .nil) (.bool _) (.turned .nil) rfl) rfl<|.g 3 rfl<|?_
 refine .cd rfl (fun _ _=>?_) fun _ _=>?_
 ·refine .g 8 rfl<|.fi rfl rfl
 ·refine .g 7 rfl<|.bind fun x8 h4=>.st rfl (cl (CC.h h4) [0] [] [true] rfl (.p rfl<|.a kI<|.a kI<|.cons (ren_fnL _ .nil .nil)<|.nil) (.p rfl (.i<|.i<|.nil) .nil) fnil (.cons (.v (.i<|.i<|.nil)) .nil) (ren_sl _) (.turned .nil) rfl) rfl<|.p0 rfl rfl fun x9 _=>.g 13 rfl<|.bind fun x10 h6=>.st rfl (cl (CC.h h6) [0] [] [true] rfl (.p rfl<|.a kD<|.nil) (.p rfl (.i<|.i<|.nil) .nil) fnil (.cons (.v (.i<|.i<|.nil)) .nil) (ren_agg (K:=kD) _) (.turned .nil) rfl) rfl<|.g 9 rfl<|.bind fun x11 h7=>.st rfl (cl (CC.h h7) [0] [] [true] rfl (.p rfl<|.a kD<|.nil) (.p rfl (.i<|.i<|.nil) .nil) fnil (.cons (.v (.i<|.i<|.nil)) .nil) (ren_agg (K:=kD) _) (.turned .nil) rfl) rfl<|.bind fun x12 h8=>.st rfl (cl (CC.h h8) [0] [] [false] rfl (.p rfl<|.a kD<|.a kD<|.nil) (.p rfl (.i<|.i<|.nil) .nil) fnil (.cons (.v (.i<|.i<|.nil)) .nil) (ren_agg (K:=kI) _) (.kept rfl .nil) rfl) rfl<|.g 1 rfl<|.dn (by kernel_rfl)<|?_
  refine .g 2 rfl<|.fi rfl rfl
instance cv_Prec_i (a0:Int) (a1:Int):CC (cv_Prec a0 a1) Tryz.prog 346 [(.ptr 0 0)] [(.live 53 [(.int .i64 a0),(.int .i64 a1)])] (fun r=>(.int .i64 r)) (fun r=>[(.live 53 [(.int .i64 a0),(.int .i64 a1)])]):=cc func346 (by kernel_rfl) rfl fun E=>by
 unfold cv_Prec
 refine .g 15 rfl<|.fi rfl rfl
instance small_Terms_i (a0:Int):PC (small_Terms a0) Tryz.prog 351 [(.int .i64 a0)] (fun r=>(.int .i64 r)):=pc func351 (by kernel_rfl) rfl fun E=>by
 unfold small_Terms
 refine .g 16 rfl<|.fi rfl rfl
instance small_odd_1_df97_i (a0:Int) (a1:AI) (a2:Int) (a3:Int) (a4:Bool) (a5:List Int) (a6:Int) (a7:Bool) (a8:List Int) (a9:Int):CC (small_odd_1_df97 a0 a1 a2 a3 a4 a5 a6 a7 a8 a9) Tryz.prog 334 [(.int .i64 a0),(.agg (kI.enc a1)),(.ptr 0 0),(.ptr 2 0),(.ptr 3 0)] [(.live 131 [(.fn 94 [(.ptr 1 0)] [])]),(.live 53 [(.int .i64 a2),(.int .i64 a3)]),(.live 45 [(.ptr 1 0)]),(.live 30 [(.bool a4),(slK (kInt .u32) a5),(.int .i64 a6),(.bool a7),(slK (kInt .u32) a8),(.int .i64 a9)])] (fun r=>(.tup [(.agg (kI.enc (⟨⟨(((r.1).Lo).M),((r.1).Lo).E⟩,⟨(((r.1).Hi).M),((r.1).Hi).E⟩⟩:AI))),(.agg (kI.enc (⟨⟨(((r.2.1).Lo).M),((r.2.1).Lo).E⟩,⟨(((r.2.1).Hi).M),((r.2.1).Hi).E⟩⟩:AI)))])) (fun r=>[(.live 131 [(.fn 94 [(.ptr 1 0)] [])]),(.live 53 [(.int .i64 r.2.2),(.int .i64 a3)]),(.live 45 [(.ptr 1 0)]),(.live 30 [(.bool a4),(slK (kInt .u32) a5),(.int .i64 a6),(.bool a7),(slK (kInt .u32) a8),(.int .i64 a9)])]):=cc func334 (by kernel_rfl) rfl fun E=>by
 unfold small_odd_1_df97
 refine .g 13 rfl<|.bind fun x5 h1=>.st rfl (cl (CC.h h1) [1] [] [true] rfl (.p rfl<|.a kI<|.a kI<|.nil) (.p rfl (.i<|.i<|.nil) .nil) fnil (.cons (.v (.i<|.i<|.nil)) .nil) (ren_agg (K:=kI) _) (.turned .nil) rfl) rfl<|.bind fun x6 h2=>.st rfl (cl (CC.h h2) [1] [] [true] rfl (.p rfl<|.a kI<|.nil) (.p rfl (.i<|.i<|.nil) .nil) fnil (.cons (.v (.i<|.i<|.nil)) .nil) (ren_agg (K:=kI) _) (.turned .nil) rfl) rfl<|.g 1 rfl<|.dn (by kernel_rfl)<|.g 10 rfl<|.bind fun x7 h3=>.st rfl (cl (CC.h h3) [1] [] [true] rfl (.p rfl<|.i<|.nil) (.p rfl (.i<|.i<|.nil) .nil) fnil (.cons (.v (.i<|.i<|.nil)) .nil) (ren_agg (K:=kI) _) (.turned .nil) rfl) rfl<|.bind fun x8 h4=>.st rfl (cl (CC.h h4) [1] [] [true] rfl (.p rfl<|.a kI<|.a kI<|.nil) (.p rfl (.i<|.i<|.nil) .nil) fnil (.cons (.v (.i<|.i<|.nil)) .nil) (ren_agg (K:=kI) _) (.turned .nil) rfl) rfl<|.g 2 rfl<|.dn (by kernel_rfl)<|?_
 refine .g 2 rfl<|.fi rfl rfl
instance dyad_Add_i (a0:AD) (a1:AD):PC (dyad_Add a0 a1) Tryz.prog 49 [(.agg (kD.enc a0)),(.agg (kD.enc a1))] (fun r=>(.tup [(.agg (kD.enc (⟨((r.1).M),(r.1).E⟩:AD))),(.int .i64 r.2)])):=pc func49 (by kernel_rfl) rfl fun E=>by
 unfold dyad_Add
 refine .g 21 rfl<|.st rfl (bs kD [a0,a1] rfl rfl) rfl<|.bind fun x8 h1=>.st rfl (cl (CC.h h1) [3] [] [true] rfl (.p rfl<|.l<|.nil) (.p rfl (.i<|.b<|.l<|.i<|.nil) .nil) fnil (.cons (.v (.i<|.b<|.l<|.i<|.nil)) .nil) (.bool _) (.turned .nil) rfl) rfl<|.g 2 rfl<|?_
 refine .cut (fun x:Bool × (List Int) × Int=>(dyad_Add_j1 x8 x.1 x.2.1 x.2.2,[eP 4 2,eP 6 3],[(2,(.live 26 [(.bool false),(slK (kInt .u32) []),(.int .i64 0)])),(3,(.live 174 [(.int .i64 x8.2),(.bool x.1),(slK (kInt .u32) x.2.1),(.int .i64 x.2.2)]))])) ?_ ?_
 ·rintro ⟨y10,y11,y12⟩
  dsimp only [dyad_Add_j1]
  refine .g 4 rfl<|.bind fun x13 h5=>.st rfl (cl (CC.h h5) [3] [] [true] rfl (.p rfl<|.nil) (.p rfl (.i<|.b<|.l<|.i<|.nil) .nil) fnil (.cons (.v (.i<|.b<|.l<|.i<|.nil)) .nil) (ren_tupL (.a kD<|.i<|.nil)) (.turned .nil) rfl) rfl<|.g 7 rfl<|.fi rfl rfl
 ·intro h6
  refine .cd rfl (fun _ _=>?_) fun _ _=>?_
  ·refine .g 4 rfl<|.p0 rfl rfl fun x14 _=>.g 4 rfl<|.jw (h6 (((x14).M).Neg,((x14).M).Mag,(x14).E)) [(2,2),(3,3)] rfl
  ·refine .g 1 rfl<|.jw (h6 (false,[],0)) [(2,2),(3,3)] rfl
instance cv_sum_i (a0:AD) (a1:AD) (a2:Int) (a3:Int):CC (cv_sum a0 a1 a2 a3) Tryz.prog 140 [(.ptr 0 0),(.agg (kD.enc a0)),(.agg (kD.enc a1))] [(.live 53 [(.int .i64 a2),(.int .i64 a3)])] (fun r=>(.agg (kD.enc (⟨((r.1).M),(r.1).E⟩:AD)))) (fun r=>[(.live 53 [(.int .i64 r.2),(.int .i64 a3)])]):=cc func140 (by kernel_rfl) rfl fun E=>by
 unfold cv_sum
 refine .g 18 rfl<|?_
 refine .cd rfl (fun _ _=>?_) fun _ _=>?_
 ·refine .g 8 rfl<|.fi rfl rfl
 ·refine .g 7 rfl<|.p0 rfl rfl fun x3 _=>.g 2 rfl<|.bind fun x4 h4=>.st rfl (cl (CC.h h4) [0] [] [true] rfl (.p rfl<|.a kD<|.i<|.nil) (.p rfl (.i<|.i<|.nil) .nil) fnil (.cons (.v (.i<|.i<|.nil)) .nil) (ren_agg (K:=kD) _) (.turned .nil) rfl) rfl<|.g 4 rfl<|.fi rfl rfl
instance cv_Add_i (a0:AI) (a1:AI) (a2:Int) (a3:Int):CC (cv_Add a0 a1 a2 a3) Tryz.prog 93 [(.ptr 0 0),(.agg (kI.enc a0)),(.agg (kI.enc a1))] [(.live 53 [(.int .i64 a2),(.int .i64 a3)])] (fun r=>(.agg (kI.enc (⟨⟨(((r.1).Lo).M),((r.1).Lo).E⟩,⟨(((r.1).Hi).M),((r.1).Hi).E⟩⟩:AI)))) (fun r=>[(.live 53 [(.int .i64 r.2),(.int .i64 a3)])]):=cc func93 (by kernel_rfl) rfl fun E=>by
 unfold cv_Add
 refine .g 13 rfl<|.st rfl (bs kI [a0,a1] rfl rfl) rfl<|.bind fun x7 h1=>.st rfl (cl (CC.h h1) [0] [] [true] rfl (.p rfl<|.l<|.nil) (.p rfl (.i<|.i<|.nil) .nil) fnil (.cons (.v (.i<|.i<|.nil)) .nil) (.bool _) (.turned .nil) rfl) rfl<|.g 3 rfl<|?_
 refine .cd rfl (fun _ _=>?_) fun _ _=>?_
 ·refine .g 8 rfl<|.fi rfl rfl
 ·refine .g 10 rfl<|.bind fun x8 h4=>.st rfl (cl (CC.h h4) [0] [] [true] rfl (.p rfl<|.a kD<|.a kD<|.nil) (.p rfl (.i<|.i<|.nil) .nil) fnil (.cons (.v (.i<|.i<|.nil)) .nil) (ren_agg (K:=kD) _) (.turned .nil) rfl) rfl<|.bind fun x9 h5=>.st rfl (cl (CC.h h5) [0] [] [true] rfl (.p rfl<|.a kD<|.nil) (.p rfl (.i<|.i<|.nil) .nil) fnil (.cons (.v (.i<|.i<|.nil)) .nil) (ren_agg (K:=kD) _) (.turned .nil) rfl) rfl<|.g 14 rfl<|.bind fun x10 h6=>.st rfl (cl (CC.h h6) [0] [] [true] rfl (.p rfl<|.a kD<|.a kD<|.nil) (.p rfl (.i<|.i<|.nil) .nil) fnil (.cons (.v (.i<|.i<|.nil)) .nil) (ren_agg (K:=kD) _) (.turned .nil) rfl) rfl<|.bind fun x11 h7=>.st rfl (cl (CC.h h7) [0] [] [true] rfl (.p rfl<|.a kD<|.nil) (.p rfl (.i<|.i<|.nil) .nil) fnil (.cons (.v (.i<|.i<|.nil)) .nil) (ren_agg (K:=kD) _) (.turned .nil) rfl) rfl<|.bind fun x12 h8=>.st rfl (cl (CC.h h8) [0] [] [false] rfl (.p rfl<|.a kD<|.a kD<|.nil) (.p rfl (.i<|.i<|.nil) .nil) fnil (.cons (.v (.i<|.i<|.nil)) .nil) (ren_agg (K:=kI) _) (.kept rfl .nil) rfl) rfl<|.g 1 rfl<|.dn (by kernel_rfl)<|?_
  refine .g 2 rfl<|.fi rfl rfl
instance cv_Wide_i (a0:AI) (a1:AD) (a2:Int) (a3:Int):CC (cv_Wide a0 a1 a2 a3) Tryz.prog 57 [(.ptr 0 0),(.agg (kI.enc a0)),(.agg (kD.enc a1))] [(.live 53 [(.int .i64 a2),(.int .i64 a3)])] (fun r=>(.agg (kI.enc (⟨⟨(((r.1).Lo).M),((r.1).Lo).E⟩,⟨(((r.1).Hi).M),((r.1).Hi).E⟩⟩:AI)))) (fun r=>[(.live 53 [(.int .i64 r.2),(.int .i64 a3)])]):=cc func57 (by kernel_rfl) rfl fun E=>by
 unfold cv_Wide
 refine .g 14 rfl<|.st rfl (bs kI [a0,(⟨⟨⟨false,[]⟩,0⟩,a1⟩:AI)] rfl rfl) rfl<|.bind fun x8 h1=>.st rfl (cl (CC.h h1) [0] [] [true] rfl (.p rfl<|.l<|.nil) (.p rfl (.i<|.i<|.nil) .nil) fnil (.cons (.v (.i<|.i<|.nil)) .nil) (.bool _) (.turned .nil) rfl) rfl<|.g 3 rfl<|?_
 refine .cd rfl (fun _ _=>?_) fun _ _=>?_
 ·refine .g 8 rfl<|.fi rfl rfl
 ·refine .g 9 rfl<|.p0 rfl rfl fun x9 _=>.bind fun x10 h5=>.st rfl (cl (CC.h h5) [0] [] [true] rfl (.p rfl<|.a kD<|.a kD<|.nil) (.p rfl (.i<|.i<|.nil) .nil) fnil (.cons (.v (.i<|.i<|.nil)) .nil) (ren_agg (K:=kD) _) (.turned .nil) rfl) rfl<|.bind fun x11 h6=>.st rfl (cl (CC.h h6) [0] [] [true] rfl (.p rfl<|.a kD<|.nil) (.p rfl (.i<|.i<|.nil) .nil) fnil (.cons (.v (.i<|.i<|.nil)) .nil) (ren_agg (K:=kD) _) (.turned .nil) rfl) rfl<|.g 2 rfl<|.dn (by kernel_rfl)<|.g 10 rfl<|.bind fun x12 h7=>.st rfl (cl (CC.h h7) [0] [] [true] rfl (.p rfl<|.a kD<|.a kD<|.nil) (.p rfl (.i<|.i<|.nil) .nil) fnil (.cons (.v (.i<|.i<|.nil)) .nil) (ren_agg (K:=kD) _) (.turned .nil) rfl) rfl<|.bind fun x13 h8=>.st rfl (cl (CC.h h8) [0] [] [true] rfl (.p rfl<|.a kD<|.nil) (.p rfl (.i<|.i<|.nil) .nil) fnil (.cons (.v (.i<|.i<|.nil)) .nil) (ren_agg (K:=kD) _) (.turned .nil) rfl) rfl<|.bind fun x14 h9=>?_
  refine .st rfl (cl (CC.h h9) [0] [] [false] rfl (.p rfl<|.a kD<|.a kD<|.nil) (.p rfl (.i<|.i<|.nil) .nil) fnil (.cons (.v (.i<|.i<|.nil)) .nil) (ren_agg (K:=kI) _) (.kept rfl .nil) rfl) rfl<|.g 1 rfl<|.dn (by kernel_rfl)<|.g 2 rfl<|.fi rfl rfl
instance small_series_5374_i (a0:AI) (a1:Int) (a2:Int) (a3:Bool) (a4:List Int) (a5:Int) (a6:Bool) (a7:List Int) (a8:Int):CC (small_series_5374 a0 a1 a2 a3 a4 a5 a6 a7 a8) Tryz.prog 327 [(.ptr 0 0),(.agg (kI.enc a0)),(.fn 334 [] [(.ptr 1 0),(.ptr 2 0),(.ptr 3 0)])] [(.live 53 [(.int .i64 a1),(.int .i64 a2)]),(.live 131 [(.fn 94 [(.ptr 0 0)] [])]),(.live 45 [(.ptr 0 0)]),(.live 30 [(.bool a3),(slK (kInt .u32) a4),(.int .i64 a5),(.bool a6),(slK (kInt .u32) a7),(.int .i64 a8)])] (fun r=>(.agg (kI.enc (⟨⟨(((r.1).Lo).M),((r.1).Lo).E⟩,⟨(((r.1).Hi).M),((r.1).Hi).E⟩⟩:AI)))) (fun r=>[(.live 53 [(.int .i64 r.2),(.int .i64 a2)]),(.live 131 [(.fn 94 [(.ptr 0 0)] [])]),(.live 45 [(.ptr 0 0)]),(.live 30 [(.bool a3),(slK (kInt .u32) a4),(.int .i64 a5),(.bool a6),(slK (kInt .u32) a7),(.int .i64 a8)])]):=cc func327 (by kernel_rfl) rfl fun E=>by
 unfold small_series_5374
 refine .g 14 rfl<|.dn (by kernel_rfl)<|.g 5 rfl<|.bind fun x93 h1=>.st rfl (cl (CC.h h1) [0] [] [false] rfl (.p rfl<|.nil) (.p rfl (.i<|.i<|.nil) .nil) fnil (.cons (.v (.i<|.i<|.nil)) .nil) (.int _ _) (.kept rfl .nil) rfl) rfl<|.p0 rfl rfl fun x94 _=>.g 3 rfl<|?_
 refine .cut (fun x:Int × Bool × (List Int) × Int × Bool × (List Int) × Int=>(small_series_5374_j1 a2 x.1 x.2.1 x.2.2.1 x.2.2.2.1 x.2.2.2.2.1 x.2.2.2.2.2.1 x.2.2.2.2.2.2,[eP 0 0,eP 6 5,eP 7 6],[(0,(.live 53 [(.int .i64 x.1),(.int .i64 a2)])),(1,(.live 131 [(.fn 94 [(.ptr 0 0)] [])])),(2,(.live 45 [(.ptr 0 0)])),(3,(.live 30 [(.bool a3),(slK (kInt .u32) a4),(.int .i64 a5),(.bool a6),(slK (kInt .u32) a7),(.int .i64 a8)])),(5,(.live 30 [(.bool false),(slK (kInt .u32) []),(.int .i64 0),(.bool false),(slK (kInt .u32) []),(.int .i64 0)])),(6,(.live 30 [(.bool x.2.1),(slK (kInt .u32) x.2.2.1),(.int .i64 x.2.2.2.1),(.bool x.2.2.2.2.1),(slK (kInt .u32) x.2.2.2.2.2.1),(.int .i64 x.2.2.2.2.2.2)]))])) ?_ ?_
 ·rintro ⟨y135,y136,y137,y138,y139,y140,y141⟩
  dsimp only [small_series_5374_j1]
  refine .g 6 rfl<|.bind fun x142 h21=>.st rfl (cl (CC.h h21) [0] [] [false] rfl (.p rfl<|.nil) (.p rfl (.i<|.i<|.nil) .nil) fnil (.cons (.v (.i<|.i<|.nil)) .nil) (.int _ _) (.kept rfl .nil) rfl) rfl<|.g 1 rfl<|.p0 rfl rfl fun x143 _=>.bind fun x144 h23=>.st rfl (cl (CC.h h23) [0] [] [true] rfl (.p rfl<|.a kI<|.a kD<|.nil) (.p rfl (.i<|.i<|.nil) .nil) fnil (.cons (.v (.i<|.i<|.nil)) .nil) (ren_agg (K:=kI) _) (.turned .nil) rfl) rfl<|.g 1 rfl<|.dn (by kernel_rfl)<|.g 2 rfl<|.fi rfl rfl
 ·intro h24
  refine .g 1 rfl<|?_
  refine .lo (fun n (x:Int × Int × Bool × (List Int) × Int × Bool × (List Int) × Int × Bool × (List Int) × Int × Bool × (List Int) × Int)=>small_series_5374_l2 x94 a2 a3 a4 a5 a6 a7 a8 n x.1 x.2.1 x.2.2.1 x.2.2.2.1 x.2.2.2.2.1 x.2.2.2.2.2.1 x.2.2.2.2.2.2.1 x.2.2.2.2.2.2.2.1 x.2.2.2.2.2.2.2.2.1 x.2.2.2.2.2.2.2.2.2.1 x.2.2.2.2.2.2.2.2.2.2.1 x.2.2.2.2.2.2.2.2.2.2.2.1 x.2.2.2.2.2.2.2.2.2.2.2.2.1 x.2.2.2.2.2.2.2.2.2.2.2.2.2) (fun x=>([eP 0 0,(2,some (.fn 334 [] [(.ptr 1 0),(.ptr 2 0),(.ptr 3 0)])),eP 6 5,eP 7 6,eP 8 7,eI 15 x94,eI 16 x.1],[(0,(.live 53 [(.int .i64 x.2.1),(.int .i64 a2)])),(1,(.live 131 [(.fn 94 [(.ptr 0 0)] [])])),(2,(.live 45 [(.ptr 0 0)])),(3,(.live 30 [(.bool a3),(slK (kInt .u32) a4),(.int .i64 a5),(.bool a6),(slK (kInt .u32) a7),(.int .i64 a8)])),(5,(.live 30 [(.bool false),(slK (kInt .u32) []),(.int .i64 0),(.bool false),(slK (kInt .u32) []),(.int .i64 0)])),(6,(.live 30 [(.bool x.2.2.1),(slK (kInt .u32) x.2.2.2.1),(.int .i64 x.2.2.2.2.1),(.bool x.2.2.2.2.2.1),(slK (kInt .u32) x.2.2.2.2.2.2.1),(.int .i64 x.2.2.2.2.2.2.2.1)])),(7,(.live 30 [(.bool x.2.2.2.2.2.2.2.2.1),(slK (kInt .u32) x.2.2.2.2.2.2.2.2.2.1),(.int .i64 x.2.2.2.2.2.2.2.2.2.2.1),(.bool x.2.2.2.2.2.2.2.2.2.2.2.1),(slK (kInt .u32) x.2.2.2.2.2.2.2.2.2.2.2.2.1),(.int .i64 x.2.2.2.2.2.2.2.2.2.2.2.2.2)]))])) (0,a1,a0.Lo.M.Neg,a0.Lo.M.Mag,a0.Lo.E,a0.Hi.M.Neg,a0.Hi.M.Mag,a0.Hi.E,a0.Lo.M.Neg,a0.Lo.M.Mag,a0.Lo.E,a0.Hi.M.Neg,a0.Hi.M.Mag,a0.Hi.E) rfl (fun hE=>jn (m:=4) [(0,0),(1,1),(2,2),(3,3),(5,5),(6,6),(7,7)] hE (.p rfl rfl<|.g rfl (ren_fnL _ .nil (.p rfl<|.p rfl<|.p rfl<|.nil))<|.p rfl rfl<|.p rfl rfl<|.p rfl rfl<|.i rfl<|.i rfl<|.nil) (.v rfl (.i<|.i<|.nil)<|.v rfl (.cons (ren_fnL _ (.p rfl<|.nil) .nil)<|.nil)<|.v rfl (.p rfl<|.nil)<|.v rfl (.b<|.l<|.i<|.b<|.l<|.i<|.nil)<|.v rfl (.b<|.l<|.i<|.b<|.l<|.i<|.nil)<|.v rfl (.b<|.l<|.i<|.b<|.l<|.i<|.nil)<|.v rfl (.b<|.l<|.i<|.b<|.l<|.i<|.nil)<|.nil) rfl) ?_
  rintro n2 ⟨y167,y168,y169,y170,y171,y172,y173,y174,y175,y176,y177,y178,y179,y180⟩
  try dsimp only
  rw [small_series_5374_l2]
  refine .g 6 rfl<|?_
  refine .cd rfl (fun _ _=>?_) fun _ _=>?_
  ·refine .g 21 rfl<|.bind fun x183 h41=>.st rfl (cl (CC.h h41) [1,0,2,3] [] [false,true,false,false] rfl (.i<|.a kI<|.p rfl<|.p rfl<|.p rfl<|.nil) (.p rfl (.cons (ren_fnL _ (.p rfl<|.nil) .nil)<|.nil) (.p rfl (.i<|.i<|.nil) (.p rfl (.p rfl<|.nil) (.p rfl (.b<|.l<|.i<|.b<|.l<|.i<|.nil) .nil)))) fnil (.cons (.v (.cons (ren_fnL _ (.p rfl<|.nil) .nil)<|.nil)) (.cons (.v (.i<|.i<|.nil)) (.cons (.v (.p rfl<|.nil)) (.cons (.v (.b<|.l<|.i<|.b<|.l<|.i<|.nil)) .nil)))) (ren_tupL (.a kI<|.a kI<|.nil)) (.kept rfl (.turned (.kept rfl (.kept rfl .nil)))) rfl) rfl<|.g 11 rfl<|.bind fun x184 h42=>.st rfl (cl (CC.h h42) [0] [] [true] rfl (.p rfl<|.a kI<|.a kI<|.nil) (.p rfl (.i<|.i<|.nil) .nil) fnil (.cons (.v (.i<|.i<|.nil)) .nil) (ren_agg (K:=kI) _) (.turned .nil) rfl) rfl<|.g 8 rfl<|.ao ((IntKind.i64.wrap (y167+1)),x184.2,(((x184.1).Lo).M).Neg,(((x184.1).Lo).M).Mag,((x184.1).Lo).E,(((x184.1).Hi).M).Neg,(((x184.1).Hi).M).Mag,((x184.1).Hi).E,(((x183.1).Lo).M).Neg,(((x183.1).Lo).M).Mag,((x183.1).Lo).E,(((x183.1).Hi).M).Neg,(((x183.1).Hi).M).Mag,((x183.1).Hi).E) rfl fun hE=>jn (m:=4) [(0,0),(1,1),(2,2),(3,3),(5,5),(6,6),(7,7)] hE (.p rfl rfl<|.g rfl (ren_fnL _ .nil (.p rfl<|.p rfl<|.p rfl<|.nil))<|.p rfl rfl<|.p rfl rfl<|.p rfl rfl<|.i rfl<|.i rfl<|.nil) (.v rfl (.i<|.i<|.nil)<|.v rfl (.cons (ren_fnL _ (.p rfl<|.nil) .nil)<|.nil)<|.v rfl (.p rfl<|.nil)<|.v rfl (.b<|.l<|.i<|.b<|.l<|.i<|.nil)<|.v rfl (.b<|.l<|.i<|.b<|.l<|.i<|.nil)<|.v rfl (.b<|.l<|.i<|.b<|.l<|.i<|.nil)<|.v rfl (.b<|.l<|.i<|.b<|.l<|.i<|.nil)<|.nil) rfl
  ·refine .g 4 rfl<|.jo (h24 (y168,y169,y170,y171,y172,y173,y174)) rfl fun hE=>jn (m:=4) [(0,0),(1,1),(2,2),(3,3),(5,5),(6,6)] hE (.p rfl rfl<|.p rfl rfl<|.p rfl rfl<|.nil) (.v rfl (.i<|.i<|.nil)<|.v rfl (.cons (ren_fnL _ (.p rfl<|.nil) .nil)<|.nil)<|.v rfl (.p rfl<|.nil)<|.v rfl (.b<|.l<|.i<|.b<|.l<|.i<|.nil)<|.v rfl (.b<|.l<|.i<|.b<|.l<|.i<|.nil)<|.v rfl (.b<|.l<|.i<|.b<|.l<|.i<|.nil)<|.nil) rfl
instance small_odd_8ed8_i (a0:AI) (a1:Int) (a2:Int):CC (small_odd_8ed8 a0 a1 a2) Tryz.prog 276 [(.ptr 0 0),(.agg (kI.enc a0)),(.fn 94 [(.ptr 0 0)] [])] [(.live 53 [(.int .i64 a1),(.int .i64 a2)])] (fun r=>(.agg (kI.enc (⟨⟨(((r.1).Lo).M),((r.1).Lo).E⟩,⟨(((r.1).Hi).M),((r.1).Hi).E⟩⟩:AI)))) (fun r=>[(.live 53 [(.int .i64 r.2),(.int .i64 a2)])]):=cc func276 (by kernel_rfl) rfl fun E=>by
 unfold small_odd_8ed8
 refine .g 13 rfl<|.bind fun x4 h1=>.st rfl (cl (CC.h h1) [0] [] [true] rfl (.p rfl<|.a kI<|.i<|.nil) (.p rfl (.i<|.i<|.nil) .nil) fnil (.cons (.v (.i<|.i<|.nil)) .nil) (.bool _) (.turned .nil) rfl) rfl<|.g 3 rfl<|?_
 refine .cd rfl (fun _ _=>?_) fun _ _=>?_
 ·refine .g 8 rfl<|.fi rfl rfl
 ·refine .g 7 rfl<|.bind fun x5 h4=>.st rfl (cl (CC.h h4) [0] [] [true] rfl (.p rfl<|.a kI<|.a kI<|.nil) (.p rfl (.i<|.i<|.nil) .nil) fnil (.cons (.v (.i<|.i<|.nil)) .nil) (ren_agg (K:=kI) _) (.turned .nil) rfl) rfl<|.g 9 rfl<|.bind fun x6 h5=>.st rfl (cl (CC.h h5) [0,3,1,5] [] [true,false,false,false] rfl (.p rfl<|.a kI<|.cons (ren_fnL _ .nil (.p rfl<|.p rfl<|.p rfl<|.nil))<|.nil) (.p rfl (.i<|.i<|.nil) (.p rfl (.cons (ren_fnL _ (.p rfl<|.nil) .nil)<|.nil) (.p rfl (.p rfl<|.nil) (.p rfl (.b<|.l<|.i<|.b<|.l<|.i<|.nil) .nil)))) fnil (.cons (.v (.i<|.i<|.nil)) (.cons (.v (.cons (ren_fnL _ (.p rfl<|.nil) .nil)<|.nil)) (.cons (.v (.p rfl<|.nil)) (.cons (.v (.b<|.l<|.i<|.b<|.l<|.i<|.nil)) .nil)))) (ren_agg (K:=kI) _) (.turned (.kept rfl (.kept rfl (.kept rfl .nil)))) rfl) rfl<|.g 4 rfl<|.fi rfl rfl
instance small_Atan_i (a0:AI) (a1:Int) (a2:Int):CC (small_Atan a0 a1 a2) Tryz.prog 192 [(.ptr 0 0),(.agg (kI.enc a0))] [(.live 53 [(.int .i64 a1),(.int .i64 a2)])] (fun r=>(.agg (kI.enc (⟨⟨(((r.1).Lo).M),((r.1).Lo).E⟩,⟨(((r.1).Hi).M),((r.1).Hi).E⟩⟩:AI)))) (fun r=>[(.live 53 [(.int .i64 r.2),(.int .i64 a2)])]):=cc func192 (by kernel_rfl) rfl fun E=>by
 unfold small_Atan
 refine .g 12 rfl<|.bind fun x2 h1=>.st rfl (cl (CC.h h1) [0] [] [true] rfl (.p rfl<|.a kI<|.cons (ren_fnL _ (.p rfl<|.nil) .nil)<|.nil) (.p rfl (.i<|.i<|.nil) .nil) fnil (.cons (.v (.i<|.i<|.nil)) .nil) (ren_agg (K:=kI) _) (.turned .nil) rfl) rfl<|.g 4 rfl<|.fi rfl rfl
instance dyad_Scale_i (a0:AD) (a1:Int):PC (dyad_Scale a0 a1) Tryz.prog 88 [(.agg (kD.enc a0)),(.int .i64 a1)] (fun r=>(.tup [(.agg (kD.enc (⟨((r.1).M),(r.1).E⟩:AD))),(.int .i64 r.2)])):=pc func88 (by kernel_rfl) rfl fun E=>by
 unfold dyad_Scale
 refine .g 16 rfl<|?_
 refine .cut (fun x:Bool × Int=>(dyad_Scale_j1 a0 a1 x.1 x.2,[eI 1 a1,eP 2 0,eP 4 1,eP 6 2,eB 25 x.1],[(0,(.live 26 [(.bool a0.M.Neg),(slK (kInt .u32) a0.M.Mag),(.int .i64 a0.E)])),(1,(.live 26 [(.bool false),(slK (kInt .u32) []),(.int .i64 0)])),(2,(.live 174 [(.int .i64 x.2),(.bool false),(slK (kInt .u32) []),(.int .i64 0)]))])) ?_ ?_
 ·rintro ⟨y19,y20⟩
  dsimp only [dyad_Scale_j1]
  refine .g 1 rfl<|?_
  refine .cut (fun x:Bool × (List Int) × Int=>(dyad_Scale_j2 y20 x.1 x.2.1 x.2.2,[eP 4 1,eP 6 2],[(1,(.live 26 [(.bool false),(slK (kInt .u32) []),(.int .i64 0)])),(2,(.live 174 [(.int .i64 y20),(.bool x.1),(slK (kInt .u32) x.2.1),(.int .i64 x.2.2)]))])) ?_ ?_
  ·rintro ⟨y21,y22,y23⟩
   dsimp only [dyad_Scale_j2]
   refine .g 4 rfl<|.bind fun x24 h9=>.st rfl (cl (CC.h h9) [2] [] [true] rfl (.p rfl<|.nil) (.p rfl (.i<|.b<|.l<|.i<|.nil) .nil) fnil (.cons (.v (.i<|.b<|.l<|.i<|.nil)) .nil) (ren_tupL (.a kD<|.i<|.nil)) (.turned .nil) rfl) rfl<|.g 7 rfl<|.fi rfl rfl
  ·intro h10
   refine .cd rfl (fun _ _=>?_) fun _ _=>?_
   ·refine .g 13 rfl<|.jw (h10 (a0.M.Neg,a0.M.Mag,(IntKind.i64.wrap (a0.E+a1)))) [(1,1),(2,2)] rfl
   ·refine .g 1 rfl<|.jw (h10 (false,[],0)) [(1,1),(2,2)] rfl
 ·intro h13
  refine .g 3 rfl<|.st rfl (bs kD [a0] rfl rfl) rfl<|.bind fun x25 h14=>.st rfl (cl (CC.h h14) [2] [] [true] rfl (.p rfl<|.l<|.nil) (.p rfl (.i<|.b<|.l<|.i<|.nil) .nil) fnil (.cons (.v (.i<|.b<|.l<|.i<|.nil)) .nil) (.bool _) (.turned .nil) rfl) rfl<|.g 1 rfl<|?_
  refine .gd 13 rfl (fun _=>?_) fun _=>?_
  ·refine .g 4 rfl<|.p0 rfl rfl fun x26 _=>.bind fun x27 h17=>.st rfl (cl (CC.h h17) [2] [] [true] rfl (.p rfl<|.b<|.i<|.nil) (.p rfl (.i<|.b<|.l<|.i<|.nil) .nil) fnil (.cons (.v (.i<|.b<|.l<|.i<|.nil)) .nil) (.bool _) (.turned .nil) rfl) rfl<|.g 2 rfl<|?_
   refine .gd 21 rfl (fun _=>?_) fun _=>?_
   ·refine .g 1 rfl<|.p0 rfl rfl fun x28 _=>.g 2 rfl<|.dn (by kernel_rfl)<|.jw (h13 ((!x28),x27.2)) [(0,0),(1,1),(2,2)] rfl
   ·refine .g 4 rfl<|.dn (by kernel_rfl)<|.jw (h13 (false,x27.2)) [(0,0),(1,1),(2,2)] rfl
  ·refine .g 12 rfl<|.dn (by kernel_rfl)<|.jw (h13 (false,x25.2)) [(0,0),(1,1),(2,2)] rfl
instance cv_Scale_i (a0:AI) (a1:Int) (a2:Int) (a3:Int):CC (cv_Scale a0 a1 a2 a3) Tryz.prog 136 [(.ptr 0 0),(.agg (kI.enc a0)),(.int .i64 a1)] [(.live 53 [(.int .i64 a2),(.int .i64 a3)])] (fun r=>(.agg (kI.enc (⟨⟨(((r.1).Lo).M),((r.1).Lo).E⟩,⟨(((r.1).Hi).M),((r.1).Hi).E⟩⟩:AI)))) (fun r=>[(.live 53 [(.int .i64 r.2),(.int .i64 a3)])]):=cc func136 (by kernel_rfl) rfl fun E=>by
 unfold cv_Scale
 refine .g 11 rfl<|.st rfl (bs kI [a0] rfl rfl) rfl<|.bind fun x7 h1=>.st rfl (cl (CC.h h1) [0] [] [true] rfl (.p rfl<|.l<|.nil) (.p rfl (.i<|.i<|.nil) .nil) fnil (.cons (.v (.i<|.i<|.nil)) .nil) (.bool _) (.turned .nil) rfl) rfl<|.g 3 rfl<|?_
 refine .cd rfl (fun _ _=>?_) fun _ _=>?_
 ·refine .g 8 rfl<|.fi rfl rfl
 ·refine .g 8 rfl<|.p0 rfl rfl fun x8 _=>.g 2 rfl<|.bind fun x9 h5=>.st rfl (cl (CC.h h5) [0] [] [true] rfl (.p rfl<|.a kD<|.i<|.nil) (.p rfl (.i<|.i<|.nil) .nil) fnil (.cons (.v (.i<|.i<|.nil)) .nil) (ren_agg (K:=kD) _) (.turned .nil) rfl) rfl<|.g 15 rfl<|?_
  refine .cd rfl (fun _ _=>?_) fun _ _=>?_
  ·refine .g 8 rfl<|.fi rfl rfl
  ·refine .g 10 rfl<|.p0 rfl rfl fun x10 _=>.g 2 rfl<|.bind fun x11 h9=>.st rfl (cl (CC.h h9) [0] [] [true] rfl (.p rfl<|.a kD<|.i<|.nil) (.p rfl (.i<|.i<|.nil) .nil) fnil (.cons (.v (.i<|.i<|.nil)) .nil) (ren_agg (K:=kD) _) (.turned .nil) rfl) rfl<|.bind fun x12 h10=>.st rfl (cl (CC.h h10) [0] [] [false] rfl (.p rfl<|.a kD<|.a kD<|.nil) (.p rfl (.i<|.i<|.nil) .nil) fnil (.cons (.v (.i<|.i<|.nil)) .nil) (ren_agg (K:=kI) _) (.kept rfl .nil) rfl) rfl<|.g 1 rfl<|.dn (by kernel_rfl)<|.g 2 rfl<|.fi rfl rfl
end Go.Proofs.YtoakhpdeadglpaaGreat.Gen
