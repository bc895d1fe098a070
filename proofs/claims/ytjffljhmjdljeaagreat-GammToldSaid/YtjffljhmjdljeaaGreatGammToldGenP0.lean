/- Printed by geng.py: a call does what the plain function says. -/
import Derived.Test.YtjffljhmjdljeaaGreatGammToldGenK
set_option linter.unusedVariables false
set_option linter.unusedSimpArgs false
set_option maxRecDepth 4000
set_option maxHeartbeats 1000000
set_option synthInstance.maxSize 4000
set_option synthInstance.maxHeartbeats 400000
namespace Go.Proofs.YtjffljhmjdljeaaGreat.Gen
open Go Go.Abs Go.Proofs Go.Proofs.Tryz
open Go.IntKind (i64 u64 u32)
instance zEp (a0:List Int):PC (Zj a0) prog 123 [(slK kU a0)] (fun r=>(slK kU r)):=pc func123 (by kernel_rfl) rfl fun E=>by
 unfold Zj
 refine .g 8 rfl<|.ln rfl rfl<|.g 4 rfl<|?_
 refine .cut (fun x:Int=>(zhb a0 x,[eL 0 a0,eI 3 x],[])) ?_ ?_
 ·rintro y17
  dsimp only [zhb]
  refine .g 11 rfl<|.guard fun h19=>.sv (slK kU (a0.take y17.toNat)) [] rfl (zci kU _ _ _ _ _ _ 0 y17 rfl underlying22 zQ rfl rfl rfl rfl rfl h19) rfl<|.guard fun h20=>.sv (grA kU 0 (a0.take y17.toNat)) [(0,(grV kU 134 (a0.take y17.toNat)))] rfl (zxj kU _ _ _ _ _ 0 (a0.take y17.toNat) rfl underlying22 q9 Zd rfl rfl rfl rfl rfl h20) rfl<|.g 4 rfl<|?_
  refine .weak ?_ (fun a w h=>Conc.gr_still kU h 2 0 134 (a0.take y17.toNat) rfl rfl)
  exact .fi rfl rfl
 ·intro h21
  refine .g 1 rfl<|?_
  refine .lp (fun n (x:Int)=>zbA a0 n x) (fun x=>([eL 0 a0,eI 3 x],[])) (a0.length:Int) [] rfl ?_
  rintro n2 y21
  try dsimp only
  rw [zbA]
  refine .g 2 rfl<|?_
  refine .cut (fun x:Bool=>(zeR (fun z0=>zbA a0 n2 z0) y21 a0 x,[eL 0 a0,eI 3 y21,eB 16 x],[])) ?_ ?_
  ·rintro y22
   dsimp only [zeR]
   refine .g 1 rfl<|?_
   refine .cd rfl (fun _ _=>?_) fun _ _=>?_
   ·refine .g 9 rfl<|.ag (i64.wrap (y21-1)) [] rfl
   ·refine .g 4 rfl<|.jw (h21 y21) [] rfl
  ·intro h38
   refine .g 4 rfl<|?_
   refine .gd 9 rfl (fun _=>?_) fun _=>?_
   ·refine .g 3 rfl<|.ix rfl rfl<|.g 4 rfl<|.jw (h38 ((a0.getD ((i64.wrap (y21-1)).toNat) (kInt .u32).z) == 0)) [] rfl
   ·refine .g 8 rfl<|.jw (h38 false) [] rfl
instance zEq (a0:Int):PC (zbB a0) prog 187 [(.int .u64 a0)] (fun r=>(slK kU r)):=pc func187 (by kernel_rfl) rfl fun E=>by
 unfold zbB
 exact wk
instance zEr (a0:Bool) (a1:List Int):PC (qE a0 a1) prog 59 [(.bool a0),(slK kU a1)] (fun r=>(.agg (kN.enc r))):=pc func59 (by kernel_rfl) rfl fun E=>by
 unfold qE
 exact wk
instance zEs (a0:Int):PC (zeS a0) prog 118 [(.int .i64 a0)] (fun r=>(.agg (kN.enc r))):=pc func118 (by kernel_rfl) rfl fun E=>by
 unfold zeS
 exact wk
instance zEt (a0:List Int) (a1:Int):PC (zhc a0 a1) prog 185 [(slK kU a0),(.int .i64 a1)] (fun r=>(.bool r)):=pc func185 (by kernel_rfl) rfl fun E=>by
 unfold zhc
 exact wk
instance zEu (a0:List Int) (a1:Int):PC (ZQ a0 a1) prog 219 [(slK kU a0),(.int .i64 a1)] (fun r=>(.int .u64 r)):=pc func219 (by kernel_rfl) rfl fun E=>by
 unfold ZQ
 exact wk
instance zEv (a0:List Int) (a1:Int):PC (zck a0 a1) prog 186 [(slK kU a0),(.int .i64 a1)] (fun r=>(slK kU r)):=pc func186 (by kernel_rfl) rfl fun E=>by
 unfold zck
 refine .g 12 rfl<|?_
 refine .cd rfl (fun _ _=>?_) fun _ _=>?_
 ·refine .g 3 rfl<|.p0 rfl rfl fun x36 _=>.g 5 rfl<|.fi rfl rfl
 ·refine .g 8 rfl<|.ln rfl rfl<|.g 3 rfl<|?_
  refine .cd rfl (fun _ _=>?_) fun _ _=>?_
  ·refine .g 7 rfl<|.fj rfl rfl (by exact AVle.nil)
  ·refine .g 15 rfl<|?_
   refine .cut (fun x:(List Int)=>(zjY x,[(5,some (grA kU 0 x))],[(0,(grV kU 134 x))])) ?_ ?_
   ·rintro y53
    dsimp only [zjY]
    refine .g 2 rfl<|?_
    refine .weak ?_ (fun a w h=>Conc.gr_still kU h 5 0 134 y53 rfl rfl)
    refine .g 2 rfl<|.p0 rfl rfl fun x54 _=>.g 4 rfl<|.fi rfl rfl
   ·intro h37
    refine .g 1 rfl<|?_
    refine .weak ?_ (fun a w h=>Conc.gr_nil kU h 5 0 134 rfl)
    refine .lo (fun n (x:Int × (List Int))=>zdy a0 a1 n x.1 x.2) (fun x=>([eL 0 a0,eI 1 a1,(5,some (grA kU 0 x.2)),eI 6 x.1],[(0,(grV kU 134 x.2))])) ((i64.wrap (a1.tdiv 32)),[]) rfl (fun hE=>jn (m:=0) [(0,0)] hE (.l rfl<|.i rfl<|.g rfl (zC (K:=kU) (by rfl) [])<|.i rfl<|.nil) (.cons (.refl _) (zE (K:=kU) 134 [])<|.nil) rfl) ?_
    rintro n2 ⟨y65,y66⟩
    try dsimp only
    rw [zdy]
    refine .g 5 rfl<|.ln rfl rfl<|.g 3 rfl<|?_
    refine .cd rfl (fun _ _=>?_) fun _ _=>?_
    ·refine .g 8 rfl<|.p0 rfl rfl fun x69 _=>.g 3 rfl<|.p0 rfl rfl fun x70 _=>.g 10 rfl<|.guard fun h66=>.st rfl (zju _ _ _ _ _ _ _ _ rfl rfl rfl rfl rfl h66) rfl<|.g 1 rfl<|.st rfl (bs kU [(u32.wrap (shrI .u64 (orI .u64 x69 (shlI .u64 x70 32)) (a1.tmod 32)))] rfl rfl) rfl<|.guard fun h67=>.sv (.row 1 (kInt .u32).sz 0 (((y66++[(u32.wrap (shrI .u64 (orI .u64 x69 (shlI .u64 x70 32)) (a1.tmod 32)))])).length)) [(1,(rwK kU 134 (y66++[(u32.wrap (shrI .u64 (orI .u64 x69 (shlI .u64 x70 32)) (a1.tmod 32)))]))),(0,.dead)] rfl (zax kU _ _ _ _ _ 0 1 y66 [(u32.wrap (shrI .u64 (orI .u64 x69 (shlI .u64 x70 32)) (a1.tmod 32)))] rfl underlying22 q9 Zd rfl rfl rfl rfl rfl rfl rfl h67) rfl<|.g 9 rfl<|?_
     refine .weak ?_ (fun a w h=>Conc.gr_row kU h 5 1 134 (y66++[(u32.wrap (shrI .u64 (orI .u64 x69 (shlI .u64 x70 32)) (a1.tmod 32)))]) rfl rfl (by first | omega | (simp only [List.length_append,List.length_cons,List.length_set]; omega) | simp))
     exact .ao ((i64.wrap (y65+1)),(y66++[(u32.wrap (shrI .u64 (orI .u64 x69 (shlI .u64 x70 32)) (a1.tmod 32)))])) rfl fun hE=>jn (m:=0) [(1,0)] hE (.l rfl<|.i rfl<|.g rfl (zC (K:=kU) (by rfl) (y66++[(u32.wrap (shrI .u64 (orI .u64 x69 (shlI .u64 x70 32)) (a1.tmod 32)))]))<|.i rfl<|.nil) (.cons (.refl _) (zE (K:=kU) 134 (y66++[(u32.wrap (shrI .u64 (orI .u64 x69 (shlI .u64 x70 32)) (a1.tmod 32)))]))<|.nil) rfl
    ·refine .g 4 rfl<|.jo (h37 y66) rfl fun hE=>jn (m:=0) [(0,0)] hE (.g rfl (zC (K:=kU) (by rfl) y66)<|.nil) (.cons (.refl _) (zE (K:=kU) 134 y66)<|.nil) rfl
instance {x15 a1} : L1 (zeT x15 a1) fun ya=>([eI 1 a1,eP 4 1,eP 5 2,eI 6 ya],[(1,(.live 26 [(.bool false),(slK kU []),(.int .i64 0)])),(2,(.live 24 [(.bool x15.Neg),(slK kU x15.Mag)]))]):={}
instance zEw (a0:za) (a1:Int):PC (zay a0 a1) prog 117 [(.agg (kN.enc a0)),(.int .i64 a1)] (fun r=>(.agg (kD.enc r))):=pc func117 (by kernel_rfl) rfl fun E=>by
 unfold zay
 exact wk
instance zEx (a0:Int):PC (zaX a0) prog 56 [(.int .i64 a0)] (fun r=>(.agg (kD.enc r))):=pc func56 (by kernel_rfl) rfl fun E=>by
 unfold zaX
 exact wk
instance zEy (a0:za):PC (zhd a0) prog 124 [(.agg (kN.enc a0))] (fun r=>(.bool r)):=pc func124 (by kernel_rfl) rfl fun E=>by
 unfold zhd
 exact wk
instance zEz (a0:AD):PC (Qa a0) prog 61 [(.agg (kD.enc a0))] (fun r=>(.bool r)):=pc func61 (by kernel_rfl) rfl fun E=>by
 unfold Qa
 exact wk
instance zEA (a0:Int) (a1:Int) (a2:Int):PC (zaz a0 a1 a2) prog 125 [(.int .i64 a0),(.int .i64 a1),(.int .i64 a2)] (fun r=>(.bool r)):=pc func125 (by kernel_rfl) rfl fun E=>by
 unfold zaz
 exact wk
instance zEB (a0:AD):PC (Zc a0) prog 60 [(.agg (kD.enc a0))] (fun r=>(.bool r)):=pc func60 (by kernel_rfl) rfl fun E=>by
 unfold Zc
 exact wk
instance:L1 zdz fun ya=>([eL 0 ya],[]):={}
instance zEC (a0:List Int):PC (qZ a0) prog 192 [(slK kU a0)] (fun r=>(slK kU r)):=pc func192 (by kernel_rfl) rfl fun E=>by
 unfold qZ
 exact wk
instance zED (a0:Int):PC (zeV a0) prog 193 [(.int .u32 a0)] (fun r=>(.int .i64 r)):=pc func193 (by kernel_rfl) rfl fun E=>by
 unfold zeV
 refine .g 12 rfl<|?_
 refine .cut (fun x:Int × Int=>(zhe x.1 x.2,[eW 0 x.1,eI 2 x.2],[])) ?_ ?_
 ·rintro ⟨y6,y7⟩
  dsimp only [zhe]
  refine .g 8 rfl<|?_
  refine .cut (fun x:Int × Int=>(zeU x.1 x.2,[eW 0 x.1,eI 2 x.2],[])) ?_ ?_
  ·rintro ⟨y8,y9⟩
   dsimp only [zeU]
   refine .g 6 rfl<|.bind fun b10 h5=>.sv (.int .u8 (b10.toNat:Int)) [] rfl (zwF _ _ _ _ _ _ _ rfl underlying9 rfl rfl rfl rfl (zrh h5) (zxe h5)) rfl<|.g 6 rfl<|.fi rfl rfl
  ·intro h6
   refine .cd rfl (fun _ _=>?_) fun _ _=>?_
   ·refine .g 12 rfl<|.jw (h6 ((shrI .u32 y6 8),(i64.wrap (y7+8)))) [] rfl
   ·refine .g 1 rfl<|.jw (h6 (y6,y7)) [] rfl
 ·intro h9
  refine .cd rfl (fun _ _=>?_) fun _ _=>?_
  ·refine .g 10 rfl<|.jw (h9 ((shrI .u32 a0 16),16)) [] rfl
  ·refine .g 1 rfl<|.jw (h9 (a0,0)) [] rfl
instance zEE (a0:List Int):PC (ZR a0) prog 126 [(slK kU a0)] (fun r=>(.int .i64 r)):=pc func126 (by kernel_rfl) rfl fun E=>by
 unfold ZR
 exact wk
theorem zxQ (l:List Int):∀ r,zdA l=some r→ACalls prog 214 [slK kU l] (lw []) (slK kU r) (ld []):=by
 unfold zdA
 refine zrg (R:=List Int) (res:=fun r=>slK kU r) (V1:=fun r=>[]) [(0,some (slK kU l))] [] 0 func214 rfl ntmps214 rfl rfl rfl rfl ?_
 intro E hE
 refine T.seq ?_
 refine T.region ?_
 refine TR.guard (fun hp=>?_)
 refine TR.st 2 (slK kU []) [] (Snd.le (zdq _ _ rfl rfl rfl rfl) AVle.nil) rfl rfl rfl ?_
 refine TR.nil ?_
 refine TQ.seq ?_
 refine T.seq ?_
 refine T.seq ?_
 refine T.region ?_
 refine TR.st 3 _ [] (zgY _ _ rfl rfl rfl rfl) rfl rfl rfl ?_
 cases l with
 | nil=>
  refine TR.sl_nil 4 _ _ _ _ _ rfl underlying22 rfl rfl rfl rfl rfl (fun b=>?_)
  refine TR.nil ?_
  refine TQ.seq ?_
  refine T.cond_any rfl ?_ ?_
  ·skip
   refine T.seq ?_
   refine T.region ?_
   refine TR.st 2 (slK kU []) [] (Snd.le (zdq _ _ rfl rfl rfl rfl) AVle.nil) rfl rfl rfl ?_
   refine TR.nil ?_
   refine TQ.seq ?_
   refine T.ret ?_
   refine TQ.seq_ret ?_
   exact zjE (.inr rfl) (.nil _) results214 (.tmp 2 _ rfl) (AVle.refl _)
  ·skip
   refine T.skip ?_
   refine TQ.seq ?_
   refine T.seq ?_
   refine T.region ?_
   refine TR.st 5 (.row 0 (kInt .u32).sz 0 ([]:List Int).length) [(0,rwK kU 134 [])] (zri kU _ _ 0 rfl underlying22 zQ rfl rfl rfl) rfl rfl rfl ?_
   refine TR.st 6 _ [] (zgY _ _ rfl rfl rfl rfl) rfl rfl rfl ?_
   refine TR.st 7 _ [] (zxi kU _ _ _ _ 0 0 rfl underlying22 zQ rfl rfl rfl rfl) rfl rfl rfl ?_
   refine TR.st 2 _ [] (zdq _ _ rfl rfl rfl rfl) rfl rfl rfl ?_
   refine TR.nil ?_
   refine TQ.seq ?_
   refine T.ret ?_
   refine TQ.weak ?_ (fun a w h=>Conc.freezeK kU h 2 0 0 (([]:List Int)).length 134 ([]:List Int) rfl rfl (by omega))
   refine TQ.weak ?_ (fun a w h=>ZO h)
   exact zjE (.inr rfl) (.nil _) results214 (.tmp 2 _ rfl) (AVle.refl _)
 | cons c l=>
  refine TR.st 4 (.bool false) [] (zxh _ _ _ _ _ _ rfl underlying22 rfl rfl rfl (Nat.succ_pos _) rfl) rfl rfl rfl ?_
  refine TR.nil ?_
  refine TQ.seq ?_
  refine T.cond_f rfl ?_
  ·skip
   refine T.skip ?_
   refine TQ.seq ?_
   refine T.seq ?_
   refine T.region ?_
   refine TR.st 5 (.row 0 (kInt .u32).sz 0 ([]:List Int).length) [(0,rwK kU 134 [])] (zri kU _ _ 0 rfl underlying22 zQ rfl rfl rfl) rfl rfl rfl ?_
   refine TR.st 6 _ [] (zgY _ _ rfl rfl rfl rfl) rfl rfl rfl ?_
   refine TR.st 7 (.row 1 (kInt .u32).sz 0 ([]++(c :: l)).length) [(1,rwK kU 134 ([]++(c :: l))),(0,.dead)] (zg4 kU _ _ _ _ _ 0 1 [] (c :: l) rfl underlying22 q9 Zd rfl rfl rfl rfl rfl rfl (by simp only [List.length_cons,List.length_nil] at hp ⊢; omega)) rfl rfl rfl ?_
   refine TR.st 2 _ [] (zdq _ _ rfl rfl rfl rfl) rfl rfl rfl ?_
   refine TR.nil ?_
   refine TQ.seq ?_
   refine T.ret ?_
   refine TQ.weak ?_ (fun a w h=>Conc.freezeK kU h 2 1 0 ((c :: l)).length 134 (c :: l) rfl rfl (by omega))
   refine TQ.weak ?_ (fun a w h=>ZO h)
   exact zjE (.inr rfl) (.nil _) results214 (.tmp 2 _ rfl) (AVle.refl _)
instance zEF (l:List Int):PC (zdA l) prog 214 [slK kU l] (fun r=>slK kU r):=⟨fun r h=>⟨⟨_,func214,by kernel_rfl,rfl⟩,zxQ l r h,fun _=>DtL.h _,fun _=>Dt.h _⟩⟩
instance zEG (a0:List Int):PC (zaY a0) prog 153 [(slK kU a0)] (fun r=>(slK kU r)):=pc func153 (by kernel_rfl) rfl fun E=>by
 unfold zaY
 exact wk
instance zEH (a0:za):PC (Q5 a0) prog 145 [(.agg (kN.enc a0))] (fun r=>(.agg (zrS.enc r))):=pc func145 (by kernel_rfl) rfl fun E=>by
 unfold Q5
 exact wk
instance {x7 x8} : L1 (zeW x7 x8) fun ya=>([eL 0 x7,eL 1 x8,eI 23 x7.length,eI 24 ya],[]):={}
instance zEI (a0:List Int) (a1:List Int):PC (zdB a0 a1) prog 146 [(slK kU a0),(slK kU a1)] (fun r=>(.int .i64 r)):=pc func146 (by kernel_rfl) rfl fun E=>by
 unfold zdB
 exact wk
instance zEJ (a0:za) (a1:za):PC (zdC a0 a1) prog 87 [(.agg (kN.enc a0)),(.agg (kN.enc a1))] (fun r=>(.int .i64 r)):=pc func87 (by kernel_rfl) rfl fun E=>by
 unfold zdC
 exact wk
instance zEK (a0:AD):PC (zcl a0) prog 62 [(.agg (kD.enc a0))] (fun r=>(.int .i64 r)):=pc func62 (by kernel_rfl) rfl fun E=>by
 unfold zcl
 exact wk
instance zEL (a0:zha):PC (zj0 a0) prog 238 [(.agg (zxN.enc a0))] (fun r=>(.bool r)):=pc func238 (by kernel_rfl) rfl fun E=>by
 unfold zj0
 exact wk
instance zEM (a0:QH):PC (zhf a0) prog 199 [(.agg (zrS.enc a0))] (fun r=>(.agg (kN.enc r))):=pc func199 (by kernel_rfl) rfl fun E=>by
 unfold zhf
 exact wk
instance zEN (a0:Bool) (a1:List Int):PC (Qm a0 a1) prog 131 [(.bool a0),(slK kU a1)] (fun r=>(.agg (kN.enc r))):=pc func131 (by kernel_rfl) rfl fun E=>by
 unfold Qm
 exact wk
instance zEO (a0:za):PC (zeX a0) prog 69 [(.agg (kN.enc a0))] (fun r=>(.agg (kN.enc r))):=pc func69 (by kernel_rfl) rfl fun E=>by
 unfold zeX
 exact wk
instance zEP (a0:AD):PC (zbC a0) prog 14 [(.agg (kD.enc a0))] (fun r=>(.agg (kD.enc r))):=pc func14 (by kernel_rfl) rfl fun E=>by
 unfold zbC
 exact wk
instance zEQ (a0:List Int) (a1:Int):PC (zaZ a0 a1) prog 206 [(slK kU a0),(.int .i64 a1)] (fun r=>(.tup [(slK kU r.1),(.bool r.2)])):=pc func206 (by kernel_rfl) rfl fun E=>by
 unfold zaZ
 refine .g 2 rfl<|.st rfl (as0 rfl) rfl<|.g 5 rfl<|?_
 refine .cut (fun x:Bool=>(zhg a0 a1 x,[eL 0 a0,eI 1 a1,eB 15 x],[])) ?_ ?_
 ·rintro y13
  dsimp only [zhg]
  refine .g 1 rfl<|?_
  refine .cd rfl (fun _ _=>?_) fun _ _=>?_
  ·refine .g 2 rfl<|.st rfl (as0 rfl) rfl<|.g 5 rfl<|.fi rfl rfl
  ·refine .g 5 rfl<|.p0 rfl rfl fun x14 _=>.g 8 rfl<|.ln rfl rfl<|.g 2 rfl<|.guard fun h5=>.sv (.row 0 (kInt .u32).sz 0 (((List.replicate ((i64.wrap ((i64.wrap ((i64.wrap (a1.tdiv 32))+(x14.length:Int)))+1)).toNat) (kInt .u32).z)).length)) [(0,(rwK kU 134 (List.replicate ((i64.wrap ((i64.wrap ((i64.wrap (a1.tdiv 32))+(x14.length:Int)))+1)).toNat) (kInt .u32).z)))] rfl (Q4 kU _ _ _ _ _ 0 _ _ _ rfl underlying22 q9 Zd (by decide) rfl rfl rfl rfl rfl h5) rfl<|.g 7 rfl<|.ln rfl rfl<|.g 3 rfl<|?_
   refine .cut (fun x:(List Int)=>(zj1 x,[(6,some (.row 0 (kInt .u32).sz 0 x.length))],[(0,(rwK kU 134 x))])) ?_ ?_
   ·rintro y19
    dsimp only [zj1]
    refine .g 2 rfl<|?_
    refine .weak ?_ (fun a w h=>Conc.freezeK kU h 6 0 0 y19.length 134 y19 rfl rfl (by omega))
    refine .weak ?_ (fun a w h=>ZO h)
    refine .g 2 rfl<|.p0 rfl rfl fun x20 _=>.g 5 rfl<|.fi rfl rfl
   ·intro h43
    refine .g 1 rfl<|?_
    refine .lp (fun n (x:Int × (List Int))=>zdD x14 a1 n x.1 x.2) (fun x=>([eI 1 a1,(6,some (.row 0 (kInt .u32).sz 0 x.2.length)),eL 25 x14,eI 26 (x14.length:Int),eI 27 x.1],[(0,(rwK kU 134 x.2))])) (0,(List.replicate ((i64.wrap ((i64.wrap ((i64.wrap (a1.tdiv 32))+(x14.length:Int)))+1)).toNat) (kInt .u32).z)) [(0,0)] rfl ?_
    rintro n3 ⟨y23,y24⟩
    try dsimp only
    rw [zdD]
    refine .g 6 rfl<|?_
    refine .cd rfl (fun _ _=>?_) fun _ _=>?_
    ·refine .g 7 rfl<|.ix rfl rfl<|.g 11 rfl<|.guard fun h76=>.st rfl (zjt _ _ _ _ _ _ _ _ rfl rfl rfl rfl rfl h76) rfl<|.g 10 rfl<|.guard fun h77=>?_
     obtain ⟨h771,h772⟩:=h77
     refine .sv (.rptr 0 (kInt .u32).sz ((i64.wrap ((i64.wrap (a1.tdiv 32))+y23)).toNat) 0) [] rfl (qc (qb _ _ _ _ _ 0 0 y24.length _ (i64.wrap ((i64.wrap (a1.tdiv 32))+y23)) rfl underlying22 zQ rfl rfl rfl rfl h771 (by omega)) (Nat.zero_add _)) rfl<|.sv (.int .u32 (y24.getD ((i64.wrap ((i64.wrap (a1.tdiv 32))+y23)).toNat) (kInt .u32).z)) [] rfl (zaW kU _ _ 0 ((i64.wrap ((i64.wrap (a1.tdiv 32))+y23)).toNat) 0 _ _ rfl qx rfl rfl rfl rfl (by first | omega | (simp only [List.length_set]; omega)) (by decide)) rfl<|.g 3 rfl<|.guard fun h78=>?_
     obtain ⟨h781,h782⟩:=h78
     refine .sv (.rptr 0 (kInt .u32).sz ((i64.wrap ((i64.wrap (a1.tdiv 32))+y23)).toNat) 0) [] rfl (qc (qb _ _ _ _ _ 0 0 y24.length _ (i64.wrap ((i64.wrap (a1.tdiv 32))+y23)) rfl underlying22 zQ rfl rfl rfl rfl h781 (by omega)) (Nat.zero_add _)) rfl<|.sm [(0,(rwK kU 134 (y24.set ((i64.wrap ((i64.wrap (a1.tdiv 32))+y23)).toNat) (orI .u32 (y24.getD ((i64.wrap ((i64.wrap (a1.tdiv 32))+y23)).toNat) (kInt .u32).z) (u32.wrap (shlI .u64 (u64.wrap (x14.getD y23.toNat (kInt .u32).z)) (a1.tmod 32)))))))] rfl (Zq kU _ _ _ 0 ((i64.wrap ((i64.wrap (a1.tdiv 32))+y23)).toNat) _ _ (orI .u32 (y24.getD ((i64.wrap ((i64.wrap (a1.tdiv 32))+y23)).toNat) (kInt .u32).z) (u32.wrap (shlI .u64 (u64.wrap (x14.getD y23.toNat (kInt .u32).z)) (a1.tmod 32)))) _ rfl rfl rfl qx rfl rfl rfl rfl rfl rfl (by first | omega | (simp only [List.length_set]; omega))) rfl<|?_
     refine .weak ?_ (fun a w h=>Conc.relen h 6 (((y24.set ((i64.wrap ((i64.wrap (a1.tdiv 32))+y23)).toNat) (orI .u32 (y24.getD ((i64.wrap ((i64.wrap (a1.tdiv 32))+y23)).toNat) (kInt .u32).z) (u32.wrap (shlI .u64 (u64.wrap (x14.getD y23.toNat (kInt .u32).z)) (a1.tmod 32)))))).length) rfl List.length_set.symm)
     refine .g 12 rfl<|.guard fun h79=>?_
     obtain ⟨h791,h792⟩:=h79
     refine .sv (.rptr 0 (kInt .u32).sz ((i64.wrap ((i64.wrap ((i64.wrap (a1.tdiv 32))+y23))+1)).toNat) 0) [] rfl (qc (qb _ _ _ _ _ 0 0 (((y24.set ((i64.wrap ((i64.wrap (a1.tdiv 32))+y23)).toNat) (orI .u32 (y24.getD ((i64.wrap ((i64.wrap (a1.tdiv 32))+y23)).toNat) (kInt .u32).z) (u32.wrap (shlI .u64 (u64.wrap (x14.getD y23.toNat (kInt .u32).z)) (a1.tmod 32)))))).length) _ (i64.wrap ((i64.wrap ((i64.wrap (a1.tdiv 32))+y23))+1)) rfl underlying22 zQ rfl rfl rfl rfl h791 (by omega)) (Nat.zero_add _)) rfl<|.sm [(0,(rwK kU 134 (((y24.set ((i64.wrap ((i64.wrap (a1.tdiv 32))+y23)).toNat) (orI .u32 (y24.getD ((i64.wrap ((i64.wrap (a1.tdiv 32))+y23)).toNat) (kInt .u32).z) (u32.wrap (shlI .u64 (u64.wrap (x14.getD y23.toNat (kInt .u32).z)) (a1.tmod 32)))))).set ((i64.wrap ((i64.wrap ((i64.wrap (a1.tdiv 32))+y23))+1)).toNat) (u32.wrap (shrI .u64 (shlI .u64 (u64.wrap (x14.getD y23.toNat (kInt .u32).z)) (a1.tmod 32)) 32)))))] rfl (Zq kU _ _ _ 0 ((i64.wrap ((i64.wrap ((i64.wrap (a1.tdiv 32))+y23))+1)).toNat) _ _ (u32.wrap (shrI .u64 (shlI .u64 (u64.wrap (x14.getD y23.toNat (kInt .u32).z)) (a1.tmod 32)) 32)) _ rfl rfl rfl qx rfl rfl rfl rfl rfl rfl (by first | omega | (simp only [List.length_set]; omega))) rfl<|?_
     refine .weak ?_ (fun a w h=>Conc.relen h 6 (((((y24.set ((i64.wrap ((i64.wrap (a1.tdiv 32))+y23)).toNat) (orI .u32 (y24.getD ((i64.wrap ((i64.wrap (a1.tdiv 32))+y23)).toNat) (kInt .u32).z) (u32.wrap (shlI .u64 (u64.wrap (x14.getD y23.toNat (kInt .u32).z)) (a1.tmod 32)))))).set ((i64.wrap ((i64.wrap ((i64.wrap (a1.tdiv 32))+y23))+1)).toNat) (u32.wrap (shrI .u64 (shlI .u64 (u64.wrap (x14.getD y23.toNat (kInt .u32).z)) (a1.tmod 32)) 32)))).length) rfl List.length_set.symm)
     refine .g 7 rfl<|.ag ((i64.wrap (y23+1)),(((y24.set ((i64.wrap ((i64.wrap (a1.tdiv 32))+y23)).toNat) (orI .u32 (y24.getD ((i64.wrap ((i64.wrap (a1.tdiv 32))+y23)).toNat) (kInt .u32).z) (u32.wrap (shlI .u64 (u64.wrap (x14.getD y23.toNat (kInt .u32).z)) (a1.tmod 32)))))).set ((i64.wrap ((i64.wrap ((i64.wrap (a1.tdiv 32))+y23))+1)).toNat) (u32.wrap (shrI .u64 (shlI .u64 (u64.wrap (x14.getD y23.toNat (kInt .u32).z)) (a1.tmod 32)) 32)))) [(0,0)] rfl
    ·refine .g 4 rfl<|.jw (h43 y24) [(0,0)] rfl
 ·intro h80
  refine .g 4 rfl<|?_
  refine .gd 12 rfl (fun _=>?_) fun _=>?_
  ·refine .g 4 rfl<|.jw (h80 true) [] rfl
  ·refine .g 4 rfl<|.jw (h80 (decide (a1>100000))) [] rfl
instance:L2 zeY fun ya yb=>([eL 0 ya,eI 1 yb],[]):={}
instance zER (a0:List Int) (a1:Int):PC (za0 a0 a1) prog 140 [(slK kU a0),(.int .i64 a1)] (fun r=>(slK kU r)):=pc func140 (by kernel_rfl) rfl fun E=>by
 unfold za0
 exact wk
instance zES (a0:Int) (a1:Int) (a2:Int):PC (zdE a0 a1 a2) prog 244 [(.int .u32 a0),(.int .u32 a1),(.int .u32 a2)] (fun r=>(.tup [(.int .u32 r.1),(.int .u32 r.2)])):=pc func244 (by kernel_rfl) rfl fun E=>by
 unfold zdE
 exact wk
instance zET (a0:List Int) (a1:List Int):PC (zcm a0 a1) prog 207 [(slK kU a0),(slK kU a1)] (fun r=>(slK kU r)):=pc func207 (by kernel_rfl) rfl fun E=>by
 unfold zcm
 refine .g 2 rfl<|.st rfl (as0 rfl) rfl<|.g 6 rfl<|.ln rfl rfl<|.g 1 rfl<|.ln rfl rfl<|.g 3 rfl<|?_
 refine .cut (fun x:(List Int) × (List Int)=>(ze0 x.1 x.2,[eL 0 x.1,eL 1 x.2],[])) ?_ ?_
 ·rintro ⟨y42,y43⟩
  dsimp only [ze0]
  refine .g 4 rfl<|.ln rfl rfl<|.g 1 rfl<|.guard fun h3=>.sv (.row 0 (kInt .u32).sz 0 (((List.replicate ((i64.wrap ((y42.length:Int)+1)).toNat) (kInt .u32).z)).length)) [(0,(rwK kU 134 (List.replicate ((i64.wrap ((y42.length:Int)+1)).toNat) (kInt .u32).z)))] rfl (Q4 kU _ _ _ _ _ 0 _ _ _ rfl underlying22 q9 Zd (by decide) rfl rfl rfl rfl rfl h3) rfl<|.g 12 rfl<|.ln rfl rfl<|.g 3 rfl<|?_
  refine .cut (fun x:Int × (List Int)=>(zj2 y42 x.1 x.2,[eL 0 y42,(5,some (.row 0 (kInt .u32).sz 0 x.2.length)),eW 6 x.1],[(0,(rwK kU 134 x.2))])) ?_ ?_
  ·rintro ⟨y62,y63⟩
   dsimp only [zj2]
   refine .g 5 rfl<|.ln rfl rfl<|.g 1 rfl<|.guard fun h64=>?_
   obtain ⟨h641,h642⟩:=h64
   refine .sv (.rptr 0 (kInt .u32).sz y42.length 0) [] rfl (qc (qb _ _ _ _ _ 0 0 y63.length _ (y42.length:Int) rfl underlying22 zQ rfl rfl rfl rfl h641 (by omega)) (Nat.zero_add _)) rfl<|.sm [(0,(rwK kU 134 (y63.set y42.length y62)))] rfl (Zq kU _ _ _ 0 y42.length _ _ y62 _ rfl rfl rfl qx rfl rfl rfl rfl rfl rfl (by first | omega | (simp only [List.length_set]; omega))) rfl<|?_
   refine .weak ?_ (fun a w h=>Conc.relen h 5 (((y63.set y42.length y62)).length) rfl List.length_set.symm)
   refine .g 3 rfl<|?_
   refine .weak ?_ (fun a w h=>Conc.freezeK kU h 5 0 0 (((y63.set y42.length y62)).length) 134 (y63.set y42.length y62) rfl rfl (by omega))
   refine .weak ?_ (fun a w h=>ZO h)
   refine .g 2 rfl<|.p0 rfl rfl fun x64 _=>.g 4 rfl<|.fi rfl rfl
  ·intro h66
   refine .g 1 rfl<|?_
   refine .lp (fun n (x:Int × Int × (List Int))=>za1 y42 y43 n x.1 x.2.1 x.2.2) (fun x=>([eL 0 y42,eL 1 y43,(5,some (.row 0 (kInt .u32).sz 0 x.2.2.length)),eW 6 x.1,eI 21 (y42.length:Int),eI 22 x.2.1],[(0,(rwK kU 134 x.2.2))])) (0,0,(List.replicate ((i64.wrap ((y42.length:Int)+1)).toNat) (kInt .u32).z)) [(0,0)] rfl ?_
   rintro n3 ⟨y76,y77,y78⟩
   try dsimp only
   rw [za1]
   refine .g 6 rfl<|?_
   refine .cd rfl (fun _ _=>?_) fun _ _=>?_
   ·refine .g 20 rfl<|.ln rfl rfl<|.g 3 rfl<|?_
    refine .cut (fun x:Int=>(zeZ y77 y42 y76 y78 (fun z0 z1 z2=>za1 y42 y43 n3 z0 z1 z2) x,[eL 0 y42,eL 1 y43,(5,some (.row 0 (kInt .u32).sz 0 y78.length)),eW 6 y76,eI 7 y77,eW 8 x,eI 21 (y42.length:Int),eI 22 y77],[(0,(rwK kU 134 y78))])) ?_ ?_
    ·rintro y81
     dsimp only [zeZ]
     refine .g 6 rfl<|.ix rfl rfl<|.g 3 rfl<|.p0 rfl rfl fun x82 _=>.g 3 rfl<|.guard fun h123=>?_
     obtain ⟨h1231,h1232⟩:=h123
     refine .sv (.rptr 0 (kInt .u32).sz y77.toNat 0) [] rfl (qc (qb _ _ _ _ _ 0 0 y78.length _ y77 rfl underlying22 zQ rfl rfl rfl rfl h1231 (by omega)) (Nat.zero_add _)) rfl<|.sm [(0,(rwK kU 134 (y78.set y77.toNat x82.1)))] rfl (Zq kU _ _ _ 0 y77.toNat _ _ x82.1 _ rfl rfl rfl qx rfl rfl rfl rfl rfl rfl (by first | omega | (simp only [List.length_set]; omega))) rfl<|?_
     refine .weak ?_ (fun a w h=>Conc.relen h 5 (((y78.set y77.toNat x82.1)).length) rfl List.length_set.symm)
     refine .g 8 rfl<|.ag (x82.2,(i64.wrap (y77+1)),(y78.set y77.toNat x82.1)) [(0,0)] rfl
    ·intro h124
     refine .cd rfl (fun _ _=>?_) fun _ _=>?_
     ·refine .g 3 rfl<|.ix rfl rfl<|.g 3 rfl<|.jw (h124 (y43.getD y77.toNat (kInt .u32).z)) [(0,0)] rfl
     ·refine .g 1 rfl<|.jw (h124 0) [(0,0)] rfl
   ·refine .g 4 rfl<|.jw (h66 (y76,y78)) [(0,0)] rfl
 ·intro h128
  refine .cd rfl (fun _ _=>?_) fun _ _=>?_
  ·refine .g 6 rfl<|.jw (h128 (a1,a0)) [] rfl
  ·refine .g 1 rfl<|.jw (h128 (a0,a1)) [] rfl
instance zEU (a0:Int) (a1:Int) (a2:Int):PC (zcn a0 a1 a2) prog 245 [(.int .u32 a0),(.int .u32 a1),(.int .u32 a2)] (fun r=>(.tup [(.int .u32 r.1),(.int .u32 r.2)])):=pc func245 (by kernel_rfl) rfl fun E=>by
 unfold zcn
 exact wk
instance zEV (a0:List Int) (a1:List Int):PC (ze2 a0 a1) prog 209 [(slK kU a0),(slK kU a1)] (fun r=>(.tup [(slK kU r.1),(.bool r.2)])):=pc func209 (by kernel_rfl) rfl fun E=>by
 unfold ze2
 refine .g 2 rfl<|.st rfl (as0 rfl) rfl<|.g 6 rfl<|.p0 rfl rfl fun x42 _=>.g 1 rfl<|.p0 rfl rfl fun x43 _=>.g 8 rfl<|.ln rfl rfl<|.g 1 rfl<|.ln rfl rfl<|.g 3 rfl<|?_
 refine .cd rfl (fun _ _=>?_) fun _ _=>?_
 ·refine .g 2 rfl<|.st rfl (as0 rfl) rfl<|.g 5 rfl<|.fi rfl rfl
 ·refine .g 5 rfl<|.ln rfl rfl<|.guard fun h5=>.sv (.row 0 (kInt .u32).sz 0 (((List.replicate x42.length (kInt .u32).z)).length)) [(0,(rwK kU 134 (List.replicate x42.length (kInt .u32).z)))] rfl (Q4 kU _ _ _ _ _ 0 _ _ _ rfl underlying22 q9 Zd (by decide) rfl rfl rfl rfl rfl h5) rfl<|.g 12 rfl<|.ln rfl rfl<|.g 3 rfl<|?_
  refine .cut (fun x:Int × (List Int)=>(zj3 x.1 x.2,[(6,some (.row 0 (kInt .u32).sz 0 x.2.length)),eW 7 x.1],[(0,(rwK kU 134 x.2))])) ?_ ?_
  ·rintro ⟨y62,y63⟩
   dsimp only [zj3]
   refine .g 8 rfl<|?_
   refine .cd rfl (fun _ _=>?_) fun _ _=>?_
   ·refine .g 2 rfl<|.st rfl (as0 rfl) rfl<|.g 5 rfl<|.fi rfl rfl
   ·refine .g 3 rfl<|?_
    refine .weak ?_ (fun a w h=>Conc.freezeK kU h 6 0 0 y63.length 134 y63 rfl rfl (by omega))
    refine .weak ?_ (fun a w h=>ZO h)
    refine .g 2 rfl<|.p0 rfl rfl fun x64 _=>.g 5 rfl<|.fi rfl rfl
  ·intro h69
   refine .g 1 rfl<|?_
   refine .lp (fun n (x:Int × Int × (List Int))=>za2 x42 x43 n x.1 x.2.1 x.2.2) (fun x=>([eL 0 x42,eL 1 x43,(6,some (.row 0 (kInt .u32).sz 0 x.2.2.length)),eW 7 x.1,eI 23 (x42.length:Int),eI 24 x.2.1],[(0,(rwK kU 134 x.2.2))])) (0,0,(List.replicate x42.length (kInt .u32).z)) [(0,0)] rfl ?_
   rintro n2 ⟨y76,y77,y78⟩
   try dsimp only
   rw [za2]
   refine .g 6 rfl<|?_
   refine .cd rfl (fun _ _=>?_) fun _ _=>?_
   ·refine .g 20 rfl<|.ln rfl rfl<|.g 3 rfl<|?_
    refine .cut (fun x:Int=>(ze1 y77 x42 y76 y78 (fun z0 z1 z2=>za2 x42 x43 n2 z0 z1 z2) x,[eL 0 x42,eL 1 x43,(6,some (.row 0 (kInt .u32).sz 0 y78.length)),eW 7 y76,eI 8 y77,eW 9 x,eI 23 (x42.length:Int),eI 24 y77],[(0,(rwK kU 134 y78))])) ?_ ?_
    ·rintro y81
     dsimp only [ze1]
     refine .g 6 rfl<|.ix rfl rfl<|.g 3 rfl<|.p0 rfl rfl fun x82 _=>.g 3 rfl<|.guard fun h126=>?_
     obtain ⟨h1261,h1262⟩:=h126
     refine .sv (.rptr 0 (kInt .u32).sz y77.toNat 0) [] rfl (qc (qb _ _ _ _ _ 0 0 y78.length _ y77 rfl underlying22 zQ rfl rfl rfl rfl h1261 (by omega)) (Nat.zero_add _)) rfl<|.sm [(0,(rwK kU 134 (y78.set y77.toNat x82.1)))] rfl (Zq kU _ _ _ 0 y77.toNat _ _ x82.1 _ rfl rfl rfl qx rfl rfl rfl rfl rfl rfl (by first | omega | (simp only [List.length_set]; omega))) rfl<|?_
     refine .weak ?_ (fun a w h=>Conc.relen h 6 (((y78.set y77.toNat x82.1)).length) rfl List.length_set.symm)
     refine .g 8 rfl<|.ag (x82.2,(i64.wrap (y77+1)),(y78.set y77.toNat x82.1)) [(0,0)] rfl
    ·intro h127
     refine .cd rfl (fun _ _=>?_) fun _ _=>?_
     ·refine .g 3 rfl<|.ix rfl rfl<|.g 3 rfl<|.jw (h127 (x43.getD y77.toNat (kInt .u32).z)) [(0,0)] rfl
     ·refine .g 1 rfl<|.jw (h127 0) [(0,0)] rfl
   ·refine .g 4 rfl<|.jw (h69 (y76,y78)) [(0,0)] rfl
instance zEW (a0:za) (a1:za):PC (zhh a0 a1) prog 147 [(.agg (kN.enc a0)),(.agg (kN.enc a1))] (fun r=>(.agg (kN.enc r))):=pc func147 (by kernel_rfl) rfl fun E=>by
 unfold zhh
 exact wk
instance zEX (a0:List Int) (a1:Int):PC (ze3 a0 a1) prog 154 [(slK kU a0),(.int .i64 a1)] (fun r=>(.bool r)):=pc func154 (by kernel_rfl) rfl fun E=>by
 unfold ze3
 exact wk
instance zEY (a0:List Int) (a1:Int):PC (zco a0 a1) prog 155 [(slK kU a0),(.int .i64 a1)] (fun r=>(slK kU r)):=pc func155 (by kernel_rfl) rfl fun E=>by
 unfold zco
 refine .g 2 rfl<|.st rfl (as0 rfl) rfl<|.g 5 rfl<|.p0 rfl rfl fun x25 _=>.g 10 rfl<|?_
 refine .cd rfl (fun _ _=>?_) fun _ _=>?_
 ·refine .g 3 rfl<|.p0 rfl rfl fun x26 _=>.g 5 rfl<|.fi rfl rfl
 ·refine .g 8 rfl<|.ln rfl rfl<|.g 3 rfl<|?_
  refine .cd rfl (fun _ _=>?_) fun _ _=>?_
  ·refine .g 2 rfl<|.st rfl (as0 rfl) rfl<|.g 4 rfl<|.fi rfl rfl
  ·refine .g 7 rfl<|.guard fun h7=>.sv (slK kU ((x25.take x25.length).drop ((i64.wrap (a1.tdiv 32)).toNat))) [] rfl (zci kU _ _ _ _ _ _ (i64.wrap (a1.tdiv 32)) (x25.length:Int) rfl underlying22 zQ rfl rfl rfl rfl rfl h7) rfl<|.g 6 rfl<|.ln rfl rfl<|.guard fun h8=>.sv (.row 0 (kInt .u32).sz 0 (((List.replicate (((x25.take x25.length).drop ((i64.wrap (a1.tdiv 32)).toNat)).length) (kInt .u32).z)).length)) [(0,(rwK kU 134 (List.replicate (((x25.take x25.length).drop ((i64.wrap (a1.tdiv 32)).toNat)).length) (kInt .u32).z)))] rfl (Q4 kU _ _ _ _ _ 0 _ _ _ rfl underlying22 q9 Zd (by decide) rfl rfl rfl rfl rfl h8) rfl<|.g 7 rfl<|.ln rfl rfl<|.g 3 rfl<|?_
   refine .cut (fun x:(List Int)=>(zj5 x,[(5,some (.row 0 (kInt .u32).sz 0 x.length))],[(0,(rwK kU 134 x))])) ?_ ?_
   ·rintro y37
    dsimp only [zj5]
    refine .g 2 rfl<|?_
    refine .weak ?_ (fun a w h=>Conc.freezeK kU h 5 0 0 y37.length 134 y37 rfl rfl (by omega))
    refine .weak ?_ (fun a w h=>ZO h)
    refine .g 2 rfl<|.p0 rfl rfl fun x38 _=>.g 4 rfl<|.fi rfl rfl
   ·intro h70
    refine .g 1 rfl<|?_
    refine .lp (fun n (x:Int × (List Int))=>za3 x25 a1 n x.1 x.2) (fun x=>([eL 0 ((x25.take x25.length).drop ((i64.wrap (a1.tdiv 32)).toNat)),eI 1 a1,(5,some (.row 0 (kInt .u32).sz 0 x.2.length)),eI 27 (((x25.take x25.length).drop ((i64.wrap (a1.tdiv 32)).toNat)).length:Int),eI 28 x.1],[(0,(rwK kU 134 x.2))])) (0,(List.replicate (((x25.take x25.length).drop ((i64.wrap (a1.tdiv 32)).toNat)).length) (kInt .u32).z)) [(0,0)] rfl ?_
    rintro n2 ⟨y45,y46⟩
    try dsimp only
    rw [za3]
    refine .g 6 rfl<|?_
    refine .cd rfl (fun _ _=>?_) fun _ _=>?_
    ·refine .g 14 rfl<|.ix rfl rfl<|.g 11 rfl<|.ln rfl rfl<|.g 3 rfl<|?_
     refine .cut (fun x:Int=>(ze4 a1 y45 y46 (fun z0 z1=>za3 x25 a1 n2 z0 z1) x,[eL 0 ((x25.take x25.length).drop ((i64.wrap (a1.tdiv 32)).toNat)),eI 1 a1,(5,some (.row 0 (kInt .u32).sz 0 y46.length)),eI 6 y45,eX 7 x,eI 27 (((x25.take x25.length).drop ((i64.wrap (a1.tdiv 32)).toNat)).length:Int),eI 28 y45],[(0,(rwK kU 134 y46))])) ?_ ?_
     ·rintro y48
      dsimp only [ze4]
      refine .g 7 rfl<|.guard fun h126=>.st rfl (zju _ _ _ _ _ _ _ _ rfl rfl rfl rfl rfl h126) rfl<|.g 1 rfl<|.guard fun h127=>?_
      obtain ⟨h1271,h1272⟩:=h127
      refine .sv (.rptr 0 (kInt .u32).sz y45.toNat 0) [] rfl (qc (qb _ _ _ _ _ 0 0 y46.length _ y45 rfl underlying22 zQ rfl rfl rfl rfl h1271 (by omega)) (Nat.zero_add _)) rfl<|.sm [(0,(rwK kU 134 (y46.set y45.toNat (u32.wrap (shrI .u64 y48 (a1.tmod 32))))))] rfl (Zq kU _ _ _ 0 y45.toNat _ _ (u32.wrap (shrI .u64 y48 (a1.tmod 32))) _ rfl rfl rfl qx rfl rfl rfl rfl rfl rfl (by first | omega | (simp only [List.length_set]; omega))) rfl<|?_
      refine .weak ?_ (fun a w h=>Conc.relen h 5 (((y46.set y45.toNat (u32.wrap (shrI .u64 y48 (a1.tmod 32))))).length) rfl List.length_set.symm)
      refine .g 7 rfl<|.ag ((i64.wrap (y45+1)),(y46.set y45.toNat (u32.wrap (shrI .u64 y48 (a1.tmod 32))))) [(0,0)] rfl
     ·intro h128
      refine .cd rfl (fun _ _=>?_) fun _ _=>?_
      ·refine .g 5 rfl<|.ix rfl rfl<|.g 6 rfl<|.jw (h128 (orI .u64 (u64.wrap (((x25.take x25.length).drop ((i64.wrap (a1.tdiv 32)).toNat)).getD y45.toNat (kInt .u32).z)) (shlI .u64 (u64.wrap (((x25.take x25.length).drop ((i64.wrap (a1.tdiv 32)).toNat)).getD ((i64.wrap (y45+1)).toNat) (kInt .u32).z)) 32))) [(0,0)] rfl
      ·refine .g 1 rfl<|.jw (h128 (u64.wrap (((x25.take x25.length).drop ((i64.wrap (a1.tdiv 32)).toNat)).getD y45.toNat (kInt .u32).z))) [(0,0)] rfl
    ·refine .g 4 rfl<|.jw (h70 y46) [(0,0)] rfl
instance {x20 a0 a2} : L1 (zdF x20 a0 a2) fun ya=>([eB 0 a0,eL 1 x20,eI 2 a2,eP 6 0,eI 7 ya],[(0,(.live 26 [(.bool false),(slK kU []),(.int .i64 0)]))]):={}
instance {x20 a0 a2} : L1 (ze5 x20 a0 a2) fun ya=>([eB 0 a0,eL 1 x20,eI 2 a2,eP 6 0,eI 7 ya],[(0,(.live 26 [(.bool false),(slK kU []),(.int .i64 0)]))]):={}
instance {x20 a0 a2 y23} : UN (znA x20 a0 a2 y23) (zdF x20 a0 a2 fuel y23):=⟨rfl⟩
instance zEZ (a0:Bool) (a1:List Int) (a2:Int):PC (za4 a0 a1 a2) prog 93 [(.bool a0),(slK kU a1),(.int .i64 a2)] (fun r=>(.agg (kD.enc r))):=pc func93 (by kernel_rfl) rfl fun E=>by
 unfold za4
 exact wk
instance zE0 (a0:AD) (a1:AD):PC (zdG a0 a1) prog 88 [(.agg (kD.enc a0)),(.agg (kD.enc a1))] (fun r=>(.agg (kD.enc r))):=pc func88 (by kernel_rfl) rfl fun E=>by
 unfold zdG
 exact wk
instance zE1 (a0:AD) (a1:AD):PC (ZA a0 a1) prog 32 [(.agg (kD.enc a0)),(.agg (kD.enc a1))] (fun r=>(.int .i64 r)):=pc func32 (by kernel_rfl) rfl fun E=>by
 unfold ZA
 refine .g 9 rfl<|?_
 refine .cut (fun x:Bool=>(zhi a0 a1 x,[eP 2 0,eP 3 1,eB 14 x],[(0,(.live 26 [(.bool a0.M.Neg),(slK kU a0.M.Mag),(.int .i64 a0.E)])),(1,(.live 26 [(.bool a1.M.Neg),(slK kU a1.M.Mag),(.int .i64 a1.E)]))])) ?_ ?_
 ·rintro y19
  dsimp only [zhi]
  refine .g 1 rfl<|?_
  refine .cd rfl (fun _ _=>?_) fun _ _=>?_
  ·refine .g 7 rfl<|.fi rfl rfl
  ·refine .g 4 rfl<|?_
   refine .cut (fun x:Bool=>(zcp a0 a1 x,[eP 2 0,eP 3 1,eB 29 x],[(0,(.live 26 [(.bool a0.M.Neg),(slK kU a0.M.Mag),(.int .i64 a0.E)])),(1,(.live 26 [(.bool a1.M.Neg),(slK kU a1.M.Mag),(.int .i64 a1.E)]))])) ?_ ?_
   ·rintro y22
    dsimp only [zcp]
    refine .g 1 rfl<|?_
    refine .cd rfl (fun _ _=>?_) fun _ _=>?_
    ·refine .g 6 rfl<|.p0 rfl rfl fun x23 _=>.g 5 rfl<|.fi rfl rfl
    ·refine .g 6 rfl<|.p0 rfl rfl fun x24 _=>.g 1 rfl<|.p0 rfl rfl fun x25 _=>.g 2 rfl<|.dn (by kernel_rfl)<|.g 8 rfl<|?_
     refine .cd rfl (fun _ _=>?_) fun _ _=>?_
     ·refine .g 12 rfl<|?_
      refine .cd rfl (fun _ _=>?_) fun _ _=>?_
      ·refine .g 8 rfl<|.fi rfl rfl
      ·refine .g 9 rfl<|.fi rfl rfl
     ·refine .g 6 rfl<|.p0 rfl rfl fun x26 _=>.p0 rfl rfl fun x27 _=>.sv (.agg (kN.enc x27.M)) [] rfl (zwG _ _ _ _ _ _ _ _ _ rfl underlying26 rfl rfl rfl zxO rfl rfl rfl (Nat.le_of_ble_eq_true rfl)) rfl<|.g 1 rfl<|.p0 rfl rfl fun x28 _=>.g 1 rfl<|.dn (by kernel_rfl)<|.g 2 rfl<|.fi rfl rfl
   ·intro h22
    refine .g 9 rfl<|?_
    refine .gd 22 rfl (fun _=>?_) fun _=>?_
    ·refine .g 8 rfl<|.jw (h22 true) [(0,0),(1,1)] rfl
    ·refine .g 1 rfl<|.p0 rfl rfl fun x29 _=>.g 2 rfl<|?_
     refine .gd 26 rfl (fun _=>?_) fun _=>?_
     ·refine .g 4 rfl<|.jw (h22 true) [(0,0),(1,1)] rfl
     ·refine .g 1 rfl<|.p0 rfl rfl fun x30 _=>.g 2 rfl<|.jw (h22 x30) [(0,0),(1,1)] rfl
 ·intro h27
  refine .g 2 rfl<|.p0 rfl rfl fun x31 _=>.g 2 rfl<|?_
  refine .gd 10 rfl (fun _=>?_) fun _=>?_
  ·refine .g 5 rfl<|.jw (h27 true) [(0,0),(1,1)] rfl
  ·refine .g 1 rfl<|.p0 rfl rfl fun x32 _=>.g 3 rfl<|.jw (h27 (!x32)) [(0,0),(1,1)] rfl
instance zE2 (a0:Int):PC (za5 a0) prog 152 [(.int .u64 a0)] (fun r=>(slK kU r)):=pc func152 (by kernel_rfl) rfl fun E=>by
 unfold za5
 exact wk
instance zE3 (a0:Int):PC (ze7 a0) prog 92 [(.int .i64 a0)] (fun r=>(.agg (kN.enc r))):=pc func92 (by kernel_rfl) rfl fun E=>by
 unfold ze7
 exact wk
instance zE4 (a0:Int):PC (ze8 a0) prog 35 [(.int .i64 a0)] (fun r=>(.agg (kD.enc r))):=pc func35 (by kernel_rfl) rfl fun E=>by
 unfold ze8
 exact wk
instance zE5 (a0:AD):PC (zbD a0) prog 174 [(.agg (kD.enc a0))] (fun r=>(.bool r)):=pc func174 (by kernel_rfl) rfl fun E=>by
 unfold zbD
 exact wk
instance zE6 (a0:za) (a1:Int):PC (zhk a0 a1) prog 106 [(.agg (kN.enc a0)),(.int .i64 a1)] (fun r=>(.tup [(.agg (kD.enc r.1)),(.bool r.2)])):=pc func106 (by kernel_rfl) rfl fun E=>by
 unfold zhk
 exact wk
instance zE7 (a0:Int):PC (Q6 a0) prog 43 [(.int .i64 a0)] (fun r=>(.agg (kD.enc r))):=pc func43 (by kernel_rfl) rfl fun E=>by
 unfold Q6
 exact wk
instance zE8 (a0:AD) (a1:Int):PC (Qn a0 a1) prog 107 [(.agg (kD.enc a0)),(.int .i64 a1)] (fun r=>(.int .i64 r)):=pc func107 (by kernel_rfl) rfl fun E=>by
 unfold Qn
 exact wk
instance zE9 (a0:Bool) (a1:Int) (a2:Int) (a3:Bool) (a4:List Int) (a5:Int):CC (zaA a0 a1 a2 a3 a4 a5) prog 138 [(.ptr 0 0),(.bool a0),(.int .i64 a1)] [(.live 120 [(.int .i64 a2),(.bool a3),(slK kU a4),(.int .i64 a5)])] (fun r=>(.bool r.1)) (fun r=>[(.live 120 [(.int .i64 r.2),(.bool a3),(slK kU a4),(.int .i64 a5)])]):=cc func138 (by kernel_rfl) rfl fun E=>by
 unfold zaA
 exact wk
instance {a0 a2 a3 a4} : L2 (zcq a0 a2 a3 a4) fun ya yb=>([eP 0 0,eK kD 7 a0,eI 8 a0.length,eI 9 ya],[(0,(.live 120 [(.int .i64 yb),(.bool a2),(slK kU a3),(.int .i64 a4)]))]):={}
instance zFa (a0:List AD) (a1:Int) (a2:Bool) (a3:List Int) (a4:Int):CC (Q7 a0 a1 a2 a3 a4) prog 104 [(.ptr 0 0),(slK kD a0)] [(.live 120 [(.int .i64 a1),(.bool a2),(slK kU a3),(.int .i64 a4)])] (fun r=>(.bool r.1)) (fun r=>[(.live 120 [(.int .i64 r.2),(.bool a2),(slK kU a3),(.int .i64 a4)])]):=cc func104 (by kernel_rfl) rfl fun E=>by
 unfold Q7
 exact wk
instance zFb (a0:za) (a1:Int):PC (zhm a0 a1) prog 175 [(.agg (kN.enc a0)),(.int .i64 a1)] (fun r=>(.tup [(.agg (kN.enc r.1)),(.bool r.2)])):=pc func175 (by kernel_rfl) rfl fun E=>by
 unfold zhm
 exact wk
instance:L3 zdI fun ya yb yc=>([eP 2 1,eP 5 3,eI 6 ya],[(1,(.live 24 [(.bool false),(slK kU [])])),(3,(.live 24 [(.bool yb),(slK kU yc)]))]):={}
instance zFc (a0:AD):PC (zhn a0) prog 108 [(.agg (kD.enc a0))] (fun r=>(.tup [(.agg (kN.enc r.1)),(.int .i64 r.2)])):=pc func108 (by kernel_rfl) rfl fun E=>by
 unfold zhn
 exact wk
instance zFd (a0:List Int):PC (zho a0) prog 176 [(slK kU a0)] (fun r=>(.tup [(.int .u64 r.1),(.bool r.2)])):=pc func176 (by kernel_rfl) rfl fun E=>by
 unfold zho
 exact wk
instance zFe (a0:za):PC (zhp a0) prog 109 [(.agg (kN.enc a0))] (fun r=>(.tup [(.int .i64 r.1),(.bool r.2)])):=pc func109 (by kernel_rfl) rfl fun E=>by
 unfold zhp
 exact wk
instance zFf (a0:AD):PC (zaB a0) prog 46 [(.agg (kD.enc a0))] (fun r=>(.tup [(.int .i64 r.1),(.int .i64 r.2)])):=pc func46 (by kernel_rfl) rfl fun E=>by
 unfold zaB
 exact wk
instance zFg (a0:Int):CC (Q8 a0) prog 10 [(.int .i64 a0)] [] (fun r=>(match r with | (Sum.inl y)=>(.tup [.nilptr,(.int .i64 y)]) | (Sum.inr y)=>(.tup [(.ptr 0 0),(.int .i64 y.1)]))) (fun r=>(match r with | (Sum.inl y)=>[.dead] | (Sum.inr y)=>[(.live 54 [(.int .i64 y.2.1),(.int .i64 y.2.2)])])):=cc func10 (by kernel_rfl) rfl fun E=>by
 unfold Q8
 exact wk
instance (a0:Int):C2 (Q8 a0) prog 10 [(.int .i64 a0)] [] (fun r=>(.tup [.nilptr,(.int .i64 r)])) (fun r=>(.tup [(.ptr 0 0),(.int .i64 r.1)])) (fun r=>[.dead]) (fun r=>[(.live 54 [(.int .i64 r.2.1),(.int .i64 r.2.2)])]):=⟨fun _ h=>CC.h h,fun _ h=>CC.h h⟩
theorem zFh {a0:Int} {r:Int} (h:Q8 a0=some (Sum.inl r)):Cal prog 10 [(.int .i64 a0)] [] (.tup [.nilptr,(.int .i64 r)]) [.dead]:=CC.h h
theorem zFi {a0:Int} {r:Int × Int × Int} (h:Q8 a0=some (Sum.inr r)):Cal prog 10 [(.int .i64 a0)] [] (.tup [(.ptr 0 0),(.int .i64 r.1)]) [(.live 54 [(.int .i64 r.2.1),(.int .i64 r.2.2)])]:=CC.h h
instance zFj (a0:Int):CC (zbE a0) prog 111 [(.int .i64 a0)] [] (fun r=>(match r with | (Sum.inl y)=>(.ptr 1 0) | (Sum.inr y)=>(.ptr 1 0))) (fun r=>(match r with | (Sum.inl y)=>[.dead,(.live 175 [.nilptr,(.int .i64 y)])] | (Sum.inr y)=>[(.live 54 [(.int .i64 y.1),(.int .i64 y.2.1)]),(.live 175 [(.ptr 0 0),(.int .i64 y.2.2)])])):=cc func111 (by kernel_rfl) rfl fun E=>by
 unfold zbE
 exact wk
instance (a0:Int):C2 (zbE a0) prog 111 [(.int .i64 a0)] [] (fun r=>(.ptr 1 0)) (fun r=>(.ptr 1 0)) (fun r=>[.dead,(.live 175 [.nilptr,(.int .i64 r)])]) (fun r=>[(.live 54 [(.int .i64 r.1),(.int .i64 r.2.1)]),(.live 175 [(.ptr 0 0),(.int .i64 r.2.2)])]):=⟨fun _ h=>CC.h h,fun _ h=>CC.h h⟩
theorem zFk {a0:Int} {r:Int} (h:zbE a0=some (Sum.inl r)):Cal prog 111 [(.int .i64 a0)] [] (.ptr 1 0) [.dead,(.live 175 [.nilptr,(.int .i64 r)])]:=CC.h h
theorem zFl {a0:Int} {r:Int × Int × Int} (h:zbE a0=some (Sum.inr r)):Cal prog 111 [(.int .i64 a0)] [] (.ptr 1 0) [(.live 54 [(.int .i64 r.1),(.int .i64 r.2.1)]),(.live 175 [(.ptr 0 0),(.int .i64 r.2.2)])]:=CC.h h
instance zFm (a0:AI):PC (QJ a0) prog 86 [(.agg (kI.enc a0))] (fun r=>(.bool r)):=pc func86 (by kernel_rfl) rfl fun E=>by
 unfold QJ
 exact wk
instance zFn (a0:Int) (a1:Int) (a2:Int):CC (zdJ a0 a1 a2) prog 72 [(.ptr 0 0),(.int .i64 a0)] [(.live 54 [(.int .i64 a1),(.int .i64 a2)])] (fun r=>(.bool r.1)) (fun r=>[(.live 54 [(.int .i64 r.2),(.int .i64 a2)])]):=cc func72 (by kernel_rfl) rfl fun E=>by
 unfold zdJ
 exact wk
instance {a0 a2} : L2 (za6 a0 a2) fun ya yb=>([eP 0 0,eK kI 7 a0,eI 8 a0.length,eI 9 ya],[(0,(.live 54 [(.int .i64 yb),(.int .i64 a2)]))]):={}
instance zFo (a0:List AI) (a1:Int) (a2:Int):CC (ZS a0 a1 a2) prog 71 [(.ptr 0 0),(slK kI a0)] [(.live 54 [(.int .i64 a1),(.int .i64 a2)])] (fun r=>(.bool r.1)) (fun r=>[(.live 54 [(.int .i64 r.2),(.int .i64 a2)])]):=cc func71 (by kernel_rfl) rfl fun E=>by
 unfold ZS
 exact wk
instance zFp (a0:AD) (a1:Int) (a2:Int):CC (zaC a0 a1 a2) prog 22 [(.ptr 0 0),(.agg (kD.enc a0))] [(.live 54 [(.int .i64 a1),(.int .i64 a2)])] (fun r=>(.agg (kI.enc r.1))) (fun r=>[(.live 54 [(.int .i64 r.2),(.int .i64 a2)])]):=cc func22 (by kernel_rfl) rfl fun E=>by
 unfold zaC
 exact wk
instance zFq (a0:Int) (a1:Int) (a2:Int):CC (qI a0 a1 a2) prog 21 [(.ptr 0 0),(.int .i64 a0)] [(.live 54 [(.int .i64 a1),(.int .i64 a2)])] (fun r=>(.agg (kI.enc r.1))) (fun r=>[(.live 54 [(.int .i64 r.2),(.int .i64 a2)])]):=cc func21 (by kernel_rfl) rfl fun E=>by
 unfold qI
 exact wk
instance zFr (a0:Int) (a1:Bool) (a2:List Int) (a3:Int):CC (Qo a0 a1 a2 a3) prog 105 [(.ptr 0 0)] [(.live 120 [(.int .i64 a0),(.bool a1),(slK kU a2),(.int .i64 a3)])] (fun r=>(.tup [(.agg (kD.enc r.1)),(.int .i64 r.2.1)])) (fun r=>[(.live 120 [(.int .i64 r.2.2),(.bool a1),(slK kU a2),(.int .i64 a3)])]):=cc func105 (by kernel_rfl) rfl fun E=>by
 unfold Qo
 exact wk
instance zFs (a0:AD) (a1:AD):PC (zhr a0 a1) prog 144 [(.agg (kD.enc a0)),(.agg (kD.enc a1))] (fun r=>(.tup [(.agg (kD.enc r.1)),(.int .i64 r.2)])):=pc func144 (by kernel_rfl) rfl fun E=>by
 unfold zhr
 exact wk
instance zFt (a0:AD) (a1:Int) (a2:Int) (a3:Int):CC (zaD a0 a1 a2 a3) prog 83 [(.ptr 0 0),(.agg (kD.enc a0)),(.int .i64 a1)] [(.live 54 [(.int .i64 a2),(.int .i64 a3)])] (fun r=>(.agg (kD.enc r.1))) (fun r=>[(.live 54 [(.int .i64 r.2),(.int .i64 a3)])]):=cc func83 (by kernel_rfl) rfl fun E=>by
 unfold zaD
 exact wk
instance zFu (a0:AD) (a1:AD) (a2:Int) (a3:Int):CC (zcr a0 a1 a2 a3) prog 81 [(.ptr 0 0),(.agg (kD.enc a0)),(.agg (kD.enc a1))] [(.live 54 [(.int .i64 a2),(.int .i64 a3)])] (fun r=>(.agg (kD.enc r.1))) (fun r=>[(.live 54 [(.int .i64 r.2),(.int .i64 a3)])]):=cc func81 (by kernel_rfl) rfl fun E=>by
 unfold zcr
 exact wk
instance zFv (a0:Int) (a1:Int) (a2:Bool) (a3:List Int) (a4:Int):CC (ze9 a0 a1 a2 a3 a4) prog 137 [(.ptr 0 0),(.int .i64 a0)] [(.live 120 [(.int .i64 a1),(.bool a2),(slK kU a3),(.int .i64 a4)])] (fun r=>(.bool r.1)) (fun r=>[(.live 120 [(.int .i64 r.2),(.bool a2),(slK kU a3),(.int .i64 a4)])]):=cc func137 (by kernel_rfl) rfl fun E=>by
 unfold ze9
 exact wk
instance zFw (a0:Bool) (a1:List Int) (a2:Int) (a3:Bool) (a4:Int) (a5:Bool) (a6:Int) (a7:Bool) (a8:List Int) (a9:Int):CC (zcs a0 a1 a2 a3 a4 a5 a6 a7 a8 a9) prog 141 [(.ptr 0 0),(.bool a0),(slK kU a1),(.int .i64 a2),(.bool a3),(.int .i64 a4),(.bool a5)] [(.live 120 [(.int .i64 a6),(.bool a7),(slK kU a8),(.int .i64 a9)])] (fun r=>(.tup [])) (fun r=>[(.live 120 [(.int .i64 a6),(.bool r.1),(slK kU r.2.1),(.int .i64 r.2.2)])]):=cc func141 (by kernel_rfl) rfl fun E=>by
 unfold zcs
 have {x68} : L2 (zdK x68 a4 a1 a0 a5 a2) fun ya yb=>([eP 0 0,eB 1 a0,eL 2 a1,eI 3 a2,eB 4 ya,eB 6 a5,eI 14 (i64.wrap (x68-a4)),eI 15 yb],[(0,(.live 120 [(.int .i64 a6),(.bool a7),(slK kU a8),(.int .i64 a9)]))]):={}
 exact wk
instance zFx (a0:AD) (a1:Int) (a2:Bool):PC (zfb a0 a1 a2) prog 143 [(.agg (kD.enc a0)),(.int .i64 a1),(.bool a2)] (fun r=>(.tup [(.agg (kD.enc r.1)),(.int .i64 r.2)])):=pc func143 (by kernel_rfl) rfl fun E=>by
 unfold zfb
 exact wk
instance zFy (a0:AD) (a1:Int) (a2:Int):CC (zct a0 a1 a2) prog 80 [(.ptr 0 0),(.agg (kD.enc a0))] [(.live 54 [(.int .i64 a1),(.int .i64 a2)])] (fun r=>(.agg (kD.enc r.1))) (fun r=>[(.live 54 [(.int .i64 r.2),(.int .i64 a2)])]):=cc func80 (by kernel_rfl) rfl fun E=>by
 unfold zct
 exact wk
instance zFz (a0:AD) (a1:Int) (a2:Int):CC (zcu a0 a1 a2) prog 82 [(.ptr 0 0),(.agg (kD.enc a0))] [(.live 54 [(.int .i64 a1),(.int .i64 a2)])] (fun r=>(.agg (kD.enc r.1))) (fun r=>[(.live 54 [(.int .i64 r.2),(.int .i64 a2)])]):=cc func82 (by kernel_rfl) rfl fun E=>by
 unfold zcu
 exact wk
instance zFA (a0:AD) (a1:AD) (a2:Int) (a3:Int):CC (za7 a0 a1 a2 a3) prog 78 [(.ptr 0 0),(.agg (kD.enc a0)),(.agg (kD.enc a1))] [(.live 54 [(.int .i64 a2),(.int .i64 a3)])] (fun r=>(.agg (kI.enc r))) (fun r=>[(.live 54 [(.int .i64 a2),(.int .i64 a3)])]):=cc func78 (by kernel_rfl) rfl fun E=>by
 unfold za7
 exact wk
instance zFB (a0:AI) (a1:AI) (a2:Int) (a3:Int):CC (Qb a0 a1 a2 a3) prog 24 [(.ptr 0 0),(.agg (kI.enc a0)),(.agg (kI.enc a1))] [(.live 54 [(.int .i64 a2),(.int .i64 a3)])] (fun r=>(.agg (kI.enc r.1))) (fun r=>[(.live 54 [(.int .i64 r.2),(.int .i64 a3)])]):=cc func24 (by kernel_rfl) rfl fun E=>by
 unfold Qb
 exact wk
end Go.Proofs.YtjffljhmjdljeaaGreat.Gen
