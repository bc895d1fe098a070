/- Printed by geng.py: a call does what the plain function says. -/
import Derived.Test.YtjffljhmjdljeaaGreatGammToldGenP2
set_option linter.unusedVariables false
set_option linter.unusedSimpArgs false
set_option maxRecDepth 4000
set_option maxHeartbeats 1000000
set_option synthInstance.maxSize 4000
set_option synthInstance.maxHeartbeats 400000
namespace Go.Proofs.YtjffljhmjdljeaaGreat.Gen
open Go Go.Abs Go.Proofs Go.Proofs.Tryz
open Go.IntKind (i64 u64 u32)
instance zG2 (a0:Int):PC (zfG a0) prog 49 [(.int .i64 a0)] (fun r=>(.tup [(.int .i64 r.1),(.int .i64 r.2.1),(.bool r.2.2)])):=pc func49 (by kernel_rfl) rfl fun E=>by
 unfold zfG
 refine .g 9 rfl<|?_
 refine .cut (fun x:Bool=>(zkO a0 x,[eI 0 a0,eB 12 x],[])) ?_ ?_
 ·rintro y2
  dsimp only [zkO]
  refine .g 1 rfl<|?_
  refine .cd rfl (fun _ _=>?_) fun _ _=>?_
  ·refine .g 9 rfl<|.fi rfl rfl
  ·refine .g 4 rfl<|.st rfl (bs (kInt .i64) [1,(-1),1,(-1),5,(-691),7,(-3617),43867,(-174611)] rfl rfl) rfl<|.g 5 rfl<|.st rfl (bs (kInt .i64) [6,30,42,30,66,2730,6,510,798,330] rfl rfl) rfl<|.g 8 rfl<|?_
   refine .ix (K:=kInt .i64) (l:=[1,(-1),1,(-1),5,(-691),7,(-3617),43867,(-174611)]) rfl rfl<|?_
   refine .g 4 rfl<|?_
   refine .ix (K:=kInt .i64) (l:=[6,30,42,30,66,2730,6,510,798,330]) rfl rfl<|?_
   refine .g 4 rfl<|.dn (by kernel_rfl)<|.g 2 rfl<|.fi rfl rfl
 ·intro h6
  refine .g 4 rfl<|?_
  refine .gd 9 rfl (fun _=>?_) fun _=>?_
  ·refine .g 4 rfl<|.jw (h6 true) [] rfl
  ·refine .g 4 rfl<|.jw (h6 (decide (a0>10))) [] rfl
instance zG3 (a0:AD) (a1:Int):PC (zbe a0 a1) prog 50 [(.agg (kD.enc a0)),(.int .i64 a1)] (fun r=>(.tup [(.agg (kI.enc r.1)),(.int .i64 r.2)])):=pc func50 (by kernel_rfl) rfl fun E=>by
 unfold zbe
 exact wk
instance zG4 (a0:Int):CC (zab a0) prog 99 [(.int .i64 a0)] [] (fun r=>(match r with | (Sum.inl y)=>.nilptr | (Sum.inr y)=>(.ptr 0 0))) (fun r=>(match r with | (Sum.inl y)=>[.dead] | (Sum.inr y)=>[(.live 171 [(.int .i64 y.1),(.int .i64 y.2)])])):=cc func99 (by kernel_rfl) rfl fun E=>by
 unfold zab
 exact wk
instance (a0:Int):C2 (zab a0) prog 99 [(.int .i64 a0)] [] (fun r=>.nilptr) (fun r=>(.ptr 0 0)) (fun r=>[.dead]) (fun r=>[(.live 171 [(.int .i64 r.1),(.int .i64 r.2)])]):=⟨fun _ h=>CC.h h,fun _ h=>CC.h h⟩
theorem zG5 {a0:Int} {r:Unit} (h:zab a0=some (Sum.inl r)):Cal prog 99 [(.int .i64 a0)] [] .nilptr [.dead]:=CC.h h
theorem zG6 {a0:Int} {r:Int × Int} (h:zab a0=some (Sum.inr r)):Cal prog 99 [(.int .i64 a0)] [] (.ptr 0 0) [(.live 171 [(.int .i64 r.1),(.int .i64 r.2)])]:=CC.h h
instance zG7 (a0:Int) (a1:Int) (a2:Int):CC (QL a0 a1 a2) prog 224 [(.ptr 0 0),(.int .i64 a0)] [(.live 171 [(.int .i64 a1),(.int .i64 a2)])] (fun r=>(.bool r.1)) (fun r=>[(.live 171 [(.int .i64 a1),(.int .i64 r.2)])]):=cc func224 (by kernel_rfl) rfl fun E=>by
 unfold QL
 exact wk
instance {a0 a1 a2} : L1 (zbP a0 a1 a2) fun ya=>([eP 0 0,eK kI 1 a0,eI 5 ya],[(0,(.live 171 [(.int .i64 a1),(.int .i64 a2)]))]):={}
instance zG8 (a0:List AI) (a1:Int) (a2:Int):CC (ZD a0 a1 a2) prog 173 [(.ptr 0 0),(slK kI a0)] [(.live 171 [(.int .i64 a1),(.int .i64 a2)])] (fun r=>(.bool r.1)) (fun r=>[(.live 171 [(.int .i64 a1),(.int .i64 r.2)])]):=cc func173 (by kernel_rfl) rfl fun E=>by
 unfold ZD
 exact wk
instance zG9 (a0:AD) (a1:Int) (a2:Int):CC (zaK a0 a1 a2) prog 166 [(.ptr 0 0),(.agg (kD.enc a0))] [(.live 171 [(.int .i64 a1),(.int .i64 a2)])] (fun r=>(.agg (kI.enc r.1))) (fun r=>[(.live 171 [(.int .i64 a1),(.int .i64 r.2)])]):=cc func166 (by kernel_rfl) rfl fun E=>by
 unfold zaK
 exact wk
instance zHa (a0:Int) (a1:Int) (a2:Int):CC (qN a0 a1 a2) prog 103 [(.ptr 0 0),(.int .i64 a0)] [(.live 171 [(.int .i64 a1),(.int .i64 a2)])] (fun r=>(.agg (kI.enc r.1))) (fun r=>[(.live 171 [(.int .i64 a1),(.int .i64 r.2)])]):=cc func103 (by kernel_rfl) rfl fun E=>by
 unfold qN
 exact wk
instance zHb (a0:List Int) (a1:List Int):PC (zcE a0 a1) prog 262 [(slK kU a0),(slK kU a1)] (fun r=>(.tup [(slK kU r.1),(.bool r.2)])):=pc func262 (by kernel_rfl) rfl fun E=>by
 unfold zcE
 refine .g 11 rfl<|.p0 rfl rfl fun x40 _=>.g 3 rfl<|?_
 refine .cd rfl (fun _ _=>?_) fun _ _=>?_
 ·refine .g 8 rfl<|.fj rfl rfl (by exact .tup (.cons AVle.nil (.cons (AVle.refl _) .nil)))
 ·refine .g 18 rfl<|?_
  refine .cut (fun x:(List Int)=>(zkP x,[(6,some (grA kU 0 x))],[(0,(grV kU 134 x))])) ?_ ?_
  ·rintro y59
   dsimp only [zkP]
   refine .g 2 rfl<|?_
   refine .weak ?_ (fun a w h=>Conc.gr_still kU h 6 0 134 y59 rfl rfl)
   refine .g 2 rfl<|.p0 rfl rfl fun x60 _=>.g 5 rfl<|.fi rfl rfl
  ·intro h29
   refine .g 1 rfl<|?_
   refine .weak ?_ (fun a w h=>Conc.gr_nil kU h 6 0 134 rfl)
   refine .lo (fun n (x:Int × Int × (List Int))=>zd2 a0 a1 n x.1 x.2.1 x.2.2) (fun x=>([eL 0 a0,eL 1 a1,(6,some (grA kU 0 x.2.2)),eX 7 x.1,eI 8 x.2.1],[(0,(grV kU 134 x.2.2))])) (0,0,[]) rfl (fun hE=>jn (m:=0) [(0,0)] hE (.l rfl<|.l rfl<|.g rfl (zC (K:=kU) (by rfl) [])<|.i rfl<|.i rfl<|.nil) (.cons (.refl _) (zE (K:=kU) 134 [])<|.nil) rfl) ?_
   rintro n2 ⟨y72,y73,y74⟩
   try dsimp only
   rw [zd2]
   refine .g 5 rfl<|.ln rfl rfl<|.g 3 rfl<|?_
   refine .cd rfl (fun _ _=>?_) fun _ _=>?_
   ·refine .g 8 rfl<|.p0 rfl rfl fun x77 _=>.g 3 rfl<|.p0 rfl rfl fun x78 _=>.g 11 rfl<|.st rfl (bs kU [(u32.wrap (u64.wrap ((u64.wrap ((u64.wrap (x77+4294967296))-x78))-y72)))] rfl rfl) rfl<|.guard fun h53=>.sv (.row 1 (kInt .u32).sz 0 (((y74++[(u32.wrap (u64.wrap ((u64.wrap ((u64.wrap (x77+4294967296))-x78))-y72)))])).length)) [(1,(rwK kU 134 (y74++[(u32.wrap (u64.wrap ((u64.wrap ((u64.wrap (x77+4294967296))-x78))-y72)))]))),(0,.dead)] rfl (zax kU _ _ _ _ _ 0 1 y74 [(u32.wrap (u64.wrap ((u64.wrap ((u64.wrap (x77+4294967296))-x78))-y72)))] rfl underlying22 q9 Zd rfl rfl rfl rfl rfl rfl rfl h53) rfl<|.g 16 rfl<|?_
    refine .weak ?_ (fun a w h=>Conc.gr_row kU h 6 1 134 (y74++[(u32.wrap (u64.wrap ((u64.wrap ((u64.wrap (x77+4294967296))-x78))-y72)))]) rfl rfl (by first | omega | (simp only [List.length_append,List.length_cons,List.length_set]; omega) | simp))
    exact .ao ((u64.wrap (1-(shrI .u64 (u64.wrap ((u64.wrap ((u64.wrap (x77+4294967296))-x78))-y72)) 32))),(i64.wrap (y73+1)),(y74++[(u32.wrap (u64.wrap ((u64.wrap ((u64.wrap (x77+4294967296))-x78))-y72)))])) rfl fun hE=>jn (m:=0) [(1,0)] hE (.l rfl<|.l rfl<|.g rfl (zC (K:=kU) (by rfl) (y74++[(u32.wrap (u64.wrap ((u64.wrap ((u64.wrap (x77+4294967296))-x78))-y72)))]))<|.i rfl<|.i rfl<|.nil) (.cons (.refl _) (zE (K:=kU) 134 (y74++[(u32.wrap (u64.wrap ((u64.wrap ((u64.wrap (x77+4294967296))-x78))-y72)))]))<|.nil) rfl
   ·refine .g 4 rfl<|.jo (h29 y74) rfl fun hE=>jn (m:=0) [(0,0)] hE (.g rfl (zC (K:=kU) (by rfl) y74)<|.nil) (.cons (.refl _) (zE (K:=kU) 134 y74)<|.nil) rfl
instance zHc (a0:za) (a1:za):PC (zh0 a0 a1) prog 263 [(.agg (kN.enc a0)),(.agg (kN.enc a1))] (fun r=>(.agg (kN.enc r))):=pc func263 (by kernel_rfl) rfl fun E=>by
 unfold zh0
 exact wk
instance zHd (a0:AD):PC (QM a0) prog 157 [(.agg (kD.enc a0))] (fun r=>(.tup [(.agg (kD.enc r.1)),(.int .i64 r.2)])):=pc func157 (by kernel_rfl) rfl fun E=>by
 unfold QM
 exact wk
instance zHe (a0:AD) (a1:AD):PC (zh1 a0 a1) prog 255 [(.agg (kD.enc a0)),(.agg (kD.enc a1))] (fun r=>(.tup [(.agg (kD.enc r.1)),(.int .i64 r.2)])):=pc func255 (by kernel_rfl) rfl fun E=>by
 unfold zh1
 exact wk
instance zHf (a0:AD) (a1:AD) (a2:Int) (a3:Int):CC (zcF a0 a1 a2 a3) prog 230 [(.ptr 0 0),(.agg (kD.enc a0)),(.agg (kD.enc a1))] [(.live 171 [(.int .i64 a2),(.int .i64 a3)])] (fun r=>(.agg (kD.enc r.1))) (fun r=>[(.live 171 [(.int .i64 a2),(.int .i64 r.2)])]):=cc func230 (by kernel_rfl) rfl fun E=>by
 unfold zcF
 exact wk
instance zHg (a0:Int):PC (zfH a0) prog 251 [(.int .i64 a0)] (fun r=>(.bool r)):=pc func251 (by kernel_rfl) rfl fun E=>by
 unfold zfH
 exact wk
instance zHh (a0:Bool) (a1:List Int) (a2:Int) (a3:Bool) (a4:Int) (a5:Bool):PC (zcG a0 a1 a2 a3 a4 a5) prog 254 [(.bool a0),(slK kU a1),(.int .i64 a2),(.bool a3),(.int .i64 a4),(.bool a5)] (fun r=>(.agg (kD.enc r))):=pc func254 (by kernel_rfl) rfl fun E=>by
 unfold zcG
 exact wk
instance zHi (a0:AD) (a1:Int) (a2:Bool):PC (zh2 a0 a1 a2) prog 250 [(.agg (kD.enc a0)),(.int .i64 a1),(.bool a2)] (fun r=>(.tup [(.agg (kD.enc r.1)),(.int .i64 r.2)])):=pc func250 (by kernel_rfl) rfl fun E=>by
 unfold zh2
 exact wk
instance zHj (a0:AD) (a1:Bool) (a2:Int) (a3:Int):CC (zac a0 a1 a2 a3) prog 226 [(.ptr 0 0),(.agg (kD.enc a0)),(.bool a1)] [(.live 171 [(.int .i64 a2),(.int .i64 a3)])] (fun r=>(.agg (kD.enc r.1))) (fun r=>[(.live 171 [(.int .i64 a2),(.int .i64 r.2)])]):=cc func226 (by kernel_rfl) rfl fun E=>by
 unfold zac
 exact wk
instance zHk (a0:AD) (a1:AD) (a2:Int) (a3:Int):CC (zbf a0 a1 a2 a3) prog 225 [(.ptr 0 0),(.agg (kD.enc a0)),(.agg (kD.enc a1))] [(.live 171 [(.int .i64 a2),(.int .i64 a3)])] (fun r=>(.agg (kI.enc r))) (fun r=>[(.live 171 [(.int .i64 a2),(.int .i64 a3)])]):=cc func225 (by kernel_rfl) rfl fun E=>by
 unfold zbf
 exact wk
instance zHl (a0:AI) (a1:AI) (a2:Int) (a3:Int):CC (Zs a0 a1 a2 a3) prog 168 [(.ptr 0 0),(.agg (kI.enc a0)),(.agg (kI.enc a1))] [(.live 171 [(.int .i64 a2),(.int .i64 a3)])] (fun r=>(.agg (kI.enc r.1))) (fun r=>[(.live 171 [(.int .i64 a2),(.int .i64 r.2)])]):=cc func168 (by kernel_rfl) rfl fun E=>by
 unfold Zs
 exact wk
instance zHm (a0:List Int) (a1:List Int):PC (zd4 a0 a1) prog 215 [(slK kU a0),(slK kU a1)] (fun r=>(slK kU r)):=pc func215 (by kernel_rfl) rfl fun E=>by
 unfold zd4
 refine .g 2 rfl<|.st rfl (as0 rfl) rfl<|.g 5 rfl<|.ln rfl rfl<|.g 1 rfl<|.ln rfl rfl<|.g 1 rfl<|.guard fun h1=>.sv (.row 0 (kInt .u32).sz 0 (((List.replicate ((i64.wrap ((a0.length:Int)+(a1.length:Int))).toNat) (kInt .u32).z)).length)) [(0,(rwK kU 134 (List.replicate ((i64.wrap ((a0.length:Int)+(a1.length:Int))).toNat) (kInt .u32).z)))] rfl (Q4 kU _ _ _ _ _ 0 _ _ _ rfl underlying22 q9 Zd (by decide) rfl rfl rfl rfl rfl h1) rfl<|.g 9 rfl<|?_
 refine .cut (fun x:(List Int)=>(zkT x,[(5,some (.row 0 (kInt .u32).sz 0 x.length))],[(0,(rwK kU 134 x))])) ?_ ?_
 ·rintro y276
  dsimp only [zkT]
  refine .g 2 rfl<|?_
  refine .weak ?_ (fun a w h=>Conc.freezeK kU h 5 0 0 y276.length 134 y276 rfl rfl (by omega))
  refine .weak ?_ (fun a w h=>ZO h)
  refine .g 2 rfl<|.p0 rfl rfl fun x277 _=>.g 4 rfl<|.fi rfl rfl
 ·intro h375
  refine .g 1 rfl<|?_
  refine .lp (fun n (x:Int × (List Int))=>zad a0 a1 n x.1 x.2) (fun x=>([eL 0 a0,eL 1 a1,(5,some (.row 0 (kInt .u32).sz 0 x.2.length)),eI 6 x.1],[(0,(rwK kU 134 x.2))])) (0,(List.replicate ((i64.wrap ((a0.length:Int)+(a1.length:Int))).toNat) (kInt .u32).z)) [(0,0)] rfl ?_
  rintro n2 ⟨y338,y339⟩
  try dsimp only
  rw [zad]
  refine .g 5 rfl<|.ln rfl rfl<|.g 3 rfl<|?_
  refine .cd rfl (fun _ _=>?_) fun _ _=>?_
  ·refine .g 3 rfl<|?_
   refine .cut (fun x:(List Int)=>(zkU (fun z0 z1=>zad a0 a1 n2 z0 z1) y338 x,[eL 0 a0,eL 1 a1,(5,some (.row 0 (kInt .u32).sz 0 x.length)),eI 6 y338],[(0,(rwK kU 134 x))])) ?_ ?_
   ·rintro y354
    dsimp only [zkU]
    refine .g 6 rfl<|.ag ((i64.wrap (y338+1)),y354) [(0,0)] rfl
   ·intro h687
    refine .g 12 rfl<|?_
    refine .cut (fun x:Int × (List Int)=>(zkV y338 a1 (fun z0 z1=>zad a0 a1 n2 z0 z1) x.1 x.2,[eL 0 a0,eL 1 a1,(5,some (.row 0 (kInt .u32).sz 0 x.2.length)),eI 6 y338,eX 7 x.1],[(0,(rwK kU 134 x.2))])) ?_ ?_
    ·rintro ⟨y361,y362⟩
     dsimp only [zkV]
     refine .g 5 rfl<|.ln rfl rfl<|.g 3 rfl<|.guard fun h718=>?_
     obtain ⟨h7181,h7182⟩:=h718
     refine .sv (.rptr 0 (kInt .u32).sz ((i64.wrap (y338+(a1.length:Int))).toNat) 0) [] rfl (qc (qb _ _ _ _ _ 0 0 y362.length _ (i64.wrap (y338+(a1.length:Int))) rfl underlying22 zQ rfl rfl rfl rfl h7181 (by omega)) (Nat.zero_add _)) rfl<|.sm [(0,(rwK kU 134 (y362.set ((i64.wrap (y338+(a1.length:Int))).toNat) (u32.wrap y361))))] rfl (Zq kU _ _ _ 0 ((i64.wrap (y338+(a1.length:Int))).toNat) _ _ (u32.wrap y361) _ rfl rfl rfl qx rfl rfl rfl rfl rfl rfl (by first | omega | (simp only [List.length_set]; omega))) rfl<|?_
     refine .weak ?_ (fun a w h=>Conc.relen h 5 (((y362.set ((i64.wrap (y338+(a1.length:Int))).toNat) (u32.wrap y361))).length) rfl List.length_set.symm)
     refine .g 2 rfl<|.jw (h687 (y362.set ((i64.wrap (y338+(a1.length:Int))).toNat) (u32.wrap y361))) [(0,0)] rfl
    ·intro h719
     refine .g 1 rfl<|?_
     refine .lp (fun n (x:Int × Int × (List Int))=>zd3 a1 y338 a0 (fun z0 z1=>zad a0 a1 n2 z0 z1) n x.1 x.2.1 x.2.2) (fun x=>([eL 0 a0,eL 1 a1,(5,some (.row 0 (kInt .u32).sz 0 x.2.2.length)),eI 6 y338,eX 7 x.1,eI 8 x.2.1],[(0,(rwK kU 134 x.2.2))])) (0,0,y339) [(0,0)] rfl ?_
     rintro n5 ⟨y366,y367,y368⟩
     try dsimp only
     rw [zd3]
     refine .g 5 rfl<|.ln rfl rfl<|.g 3 rfl<|?_
     refine .cd rfl (fun _ _=>?_) fun _ _=>?_
     ·refine .g 8 rfl<|.ix rfl rfl<|.g 4 rfl<|.ix rfl rfl<|.g 7 rfl<|.guard fun h748=>?_
      obtain ⟨h7481,h7482⟩:=h748
      refine .sv (.rptr 0 (kInt .u32).sz ((i64.wrap (y338+y367)).toNat) 0) [] rfl (qc (qb _ _ _ _ _ 0 0 y368.length _ (i64.wrap (y338+y367)) rfl underlying22 zQ rfl rfl rfl rfl h7481 (by omega)) (Nat.zero_add _)) rfl<|.sv (.int .u32 (y368.getD ((i64.wrap (y338+y367)).toNat) (kInt .u32).z)) [] rfl (zaW kU _ _ 0 ((i64.wrap (y338+y367)).toNat) 0 _ _ rfl qx rfl rfl rfl rfl (by first | omega | (simp only [List.length_set]; omega)) (by decide)) rfl<|.g 5 rfl<|.dn (by kernel_rfl)<|.g 9 rfl<|.guard fun h749=>?_
      obtain ⟨h7491,h7492⟩:=h749
      refine .sv (.rptr 0 (kInt .u32).sz ((i64.wrap (y338+y367)).toNat) 0) [] rfl (qc (qb _ _ _ _ _ 0 0 y368.length _ (i64.wrap (y338+y367)) rfl underlying22 zQ rfl rfl rfl rfl h7491 (by omega)) (Nat.zero_add _)) rfl<|.sm [(0,(rwK kU 134 (y368.set ((i64.wrap (y338+y367)).toNat) (u32.wrap (u64.wrap ((u64.wrap ((u64.wrap ((u64.wrap (a0.getD y338.toNat (kInt .u32).z))*(u64.wrap (a1.getD y367.toNat (kInt .u32).z))))+(u64.wrap (y368.getD ((i64.wrap (y338+y367)).toNat) (kInt .u32).z))))+y366))))))] rfl (Zq kU _ _ _ 0 ((i64.wrap (y338+y367)).toNat) _ _ (u32.wrap (u64.wrap ((u64.wrap ((u64.wrap ((u64.wrap (a0.getD y338.toNat (kInt .u32).z))*(u64.wrap (a1.getD y367.toNat (kInt .u32).z))))+(u64.wrap (y368.getD ((i64.wrap (y338+y367)).toNat) (kInt .u32).z))))+y366))) _ rfl rfl rfl qx rfl rfl rfl rfl rfl rfl (by first | omega | (simp only [List.length_set]; omega))) rfl<|?_
      refine .weak ?_ (fun a w h=>Conc.relen h 5 (((y368.set ((i64.wrap (y338+y367)).toNat) (u32.wrap (u64.wrap ((u64.wrap ((u64.wrap ((u64.wrap (a0.getD y338.toNat (kInt .u32).z))*(u64.wrap (a1.getD y367.toNat (kInt .u32).z))))+(u64.wrap (y368.getD ((i64.wrap (y338+y367)).toNat) (kInt .u32).z))))+y366))))).length) rfl List.length_set.symm)
      refine .g 14 rfl<|.ag ((shrI .u64 (u64.wrap ((u64.wrap ((u64.wrap ((u64.wrap (a0.getD y338.toNat (kInt .u32).z))*(u64.wrap (a1.getD y367.toNat (kInt .u32).z))))+(u64.wrap (y368.getD ((i64.wrap (y338+y367)).toNat) (kInt .u32).z))))+y366)) 32),(i64.wrap (y367+1)),(y368.set ((i64.wrap (y338+y367)).toNat) (u32.wrap (u64.wrap ((u64.wrap ((u64.wrap ((u64.wrap (a0.getD y338.toNat (kInt .u32).z))*(u64.wrap (a1.getD y367.toNat (kInt .u32).z))))+(u64.wrap (y368.getD ((i64.wrap (y338+y367)).toNat) (kInt .u32).z))))+y366))))) [(0,0)] rfl
     ·refine .g 4 rfl<|.jw (h719 (y366,y368)) [(0,0)] rfl
  ·refine .g 4 rfl<|.jw (h375 y339) [(0,0)] rfl
instance zHn (a0:za) (a1:za):PC (zh3 a0 a1) prog 158 [(.agg (kN.enc a0)),(.agg (kN.enc a1))] (fun r=>(.agg (kN.enc r))):=pc func158 (by kernel_rfl) rfl fun E=>by
 unfold zh3
 exact wk
instance zHo (a0:AD) (a1:AD):PC (zh4 a0 a1) prog 96 [(.agg (kD.enc a0)),(.agg (kD.enc a1))] (fun r=>(.tup [(.agg (kD.enc r.1)),(.int .i64 r.2)])):=pc func96 (by kernel_rfl) rfl fun E=>by
 unfold zh4
 exact wk
instance {a0} : L4 (zd5 a0) fun ya yb yc yd=>([eK kD 0 a0,eP 2 0,eP 3 1,eI 4 ya],[(0,(.live 26 [(.bool false),(slK kU []),(.int .i64 0)])),(1,(.live 26 [(.bool yb),(slK kU yc),(.int .i64 yd)]))]):={}
instance zHp (a0:List AD):PC (zfI a0) prog 227 [(slK kD a0)] (fun r=>(.agg (kD.enc r))):=pc func227 (by kernel_rfl) rfl fun E=>by
 unfold zfI
 exact wk
instance {a0} : L4 (zd6 a0) fun ya yb yc yd=>([eK kD 0 a0,eP 2 0,eP 3 1,eI 4 ya],[(0,(.live 26 [(.bool false),(slK kU []),(.int .i64 0)])),(1,(.live 26 [(.bool yb),(slK kU yc),(.int .i64 yd)]))]):={}
instance zHq (a0:List AD):PC (zfJ a0) prog 228 [(slK kD a0)] (fun r=>(.agg (kD.enc r))):=pc func228 (by kernel_rfl) rfl fun E=>by
 unfold zfJ
 exact wk
instance zHr (a0:AI) (a1:AI) (a2:Int) (a3:Int):CC (ZE a0 a1 a2 a3) prog 165 [(.ptr 0 0),(.agg (kI.enc a0)),(.agg (kI.enc a1))] [(.live 171 [(.int .i64 a2),(.int .i64 a3)])] (fun r=>(.agg (kI.enc (⟨⟨r.1.Lo.M,r.1.Lo.E⟩,⟨r.1.Hi.M,r.1.Hi.E⟩⟩:AI)))) (fun r=>[(.live 171 [(.int .i64 a2),(.int .i64 r.2)])]):=cc func165 (by kernel_rfl) rfl fun E=>by
 unfold ZE
 refine .g 13 rfl<|.st rfl (bs kI [a0,a1] rfl rfl) rfl<|.c0 [0] [] [true] rfl rfl (fun _=>rfl) (fun _=>rfl) fun x45 _=>.g 3 rfl<|?_
 refine .cd rfl (fun _ _=>?_) fun _ _=>?_
 ·refine .g 8 rfl<|.fi rfl rfl
 ·refine .g 12 rfl<|.st rfl (bs kD [a0.Lo,a0.Lo,a0.Hi,a0.Hi] rfl rfl) rfl<|.g 13 rfl<|.st rfl (bs kD [a1.Lo,a1.Hi,a1.Lo,a1.Hi] rfl rfl) rfl<|.g 14 rfl<|?_
  refine .cut (fun x:Int × (List AD)=>(zkW a2 x.1 x.2,[eP 0 0,eP 6 3,(9,some (grA kD 4 x.2))],[(0,(.live 171 [(.int .i64 a2),(.int .i64 x.1)])),(3,(.live 37 [(.bool false),(slK kU []),(.int .i64 0),(.bool false),(slK kU []),(.int .i64 0)])),(4,(grV kD 26 x.2))])) ?_ ?_
  ·rintro ⟨y64,y65⟩
   dsimp only [zkW]
   refine .g 2 rfl<|?_
   refine .weak ?_ (fun a w h=>Conc.gr_still kD h 9 4 26 y65 rfl rfl)
   refine .g 3 rfl<|.p0 rfl rfl fun x66 _=>.c0 [0] [] [true] rfl rfl (fun _=>rfl) (fun _=>rfl) fun x67 _=>.g 8 rfl<|.p0 rfl rfl fun x68 _=>.c0 [0] [] [true] rfl rfl (fun _=>rfl) (fun _=>rfl) fun x69 _=>.g 9 rfl<|.c0 [0] [] [false] rfl rfl (fun _=>rfl) (fun _=>rfl) fun x70 _=>.g 4 rfl<|.fi rfl rfl
  ·intro h55
   refine .g 1 rfl<|?_
   refine .weak ?_ (fun a w h=>Conc.gr_nil kD h 9 4 26 rfl)
   refine .lo (fun n (x:Int × Int × (List AD))=>zcH a0 a1 a2 n x.1 x.2.1 x.2.2) (fun x=>([eP 0 0,eP 6 3,eK kD 7 [a0.Lo,a0.Lo,a0.Hi,a0.Hi],eK kD 8 [a1.Lo,a1.Hi,a1.Lo,a1.Hi],(9,some (grA kD 4 x.2.2)),eI 10 x.1],[(0,(.live 171 [(.int .i64 a2),(.int .i64 x.2.1)])),(3,(.live 37 [(.bool false),(slK kU []),(.int .i64 0),(.bool false),(slK kU []),(.int .i64 0)])),(4,(grV kD 26 x.2.2))])) (0,x45.2,[]) rfl (fun hE=>jn (m:=1) [(0,0),(3,3),(4,4)] hE (.p rfl rfl<|.p rfl rfl<|.l rfl<|.l rfl<|.g rfl (zC (K:=kD) (by rfl) [])<|.i rfl<|.nil) (.v rfl (.i<|.i<|.nil)<|.v rfl (.b<|.l<|.i<|.b<|.l<|.i<|.nil)<|.cons (.refl _) (zE (K:=kD) 26 [])<|.nil) rfl) ?_
   rintro n2 ⟨y82,y83,y84⟩
   try dsimp only
   rw [zcH]
   refine .g 7 rfl<|?_
   refine .cd rfl (fun _ _=>?_) fun _ _=>?_
   ·refine .g 8 rfl<|.ix rfl rfl<|.g 3 rfl<|.ix rfl rfl<|.g 1 rfl<|.p0 rfl rfl fun x87 _=>.g 6 rfl<|.dn (by kernel_rfl)<|.g 6 rfl<|.c0 [0] [] [true] rfl rfl (fun _=>rfl) (fun _=>rfl) fun x88 _=>.g 3 rfl<|?_
    refine .cd rfl (fun _ _=>?_) fun _ _=>?_
    ·refine .g 13 rfl<|.fi rfl rfl
    ·refine .g 5 rfl<|.st rfl (bs kD [(⟨x87.1.M,x87.1.E⟩:AD)] rfl rfl) rfl<|.guard fun h101=>.sv (.row 2 kD.sz 0 (((y84++[(⟨x87.1.M,x87.1.E⟩:AD)])).length)) [(2,(rwK kD 26 (y84++[(⟨x87.1.M,x87.1.E⟩:AD)]))),(4,.dead)] rfl (zax kD _ _ _ _ _ 4 2 y84 [(⟨x87.1.M,x87.1.E⟩:AD)] rfl underlying90 zii zij rfl rfl rfl rfl rfl rfl rfl h101) rfl<|.g 9 rfl<|?_
     refine .weak ?_ (fun a w h=>Conc.gr_row kD h 9 2 26 (y84++[(⟨x87.1.M,x87.1.E⟩:AD)]) rfl rfl (by first | omega | (simp only [List.length_append,List.length_cons,List.length_set]; omega) | simp))
     exact .ao ((i64.wrap (y82+1)),x88.2,(y84++[(⟨x87.1.M,x87.1.E⟩:AD)])) rfl fun hE=>jn (m:=1) [(0,0),(3,3),(2,4)] hE (.p rfl rfl<|.p rfl rfl<|.l rfl<|.l rfl<|.g rfl (zC (K:=kD) (by rfl) (y84++[(⟨x87.1.M,x87.1.E⟩:AD)]))<|.i rfl<|.nil) (.v rfl (.i<|.i<|.nil)<|.v rfl (.b<|.l<|.i<|.b<|.l<|.i<|.nil)<|.cons (.refl _) (zE (K:=kD) 26 (y84++[(⟨x87.1.M,x87.1.E⟩:AD)]))<|.nil) rfl
   ·refine .g 4 rfl<|.jo (h55 (y83,y84)) rfl fun hE=>jn (m:=1) [(0,0),(3,3),(4,4)] hE (.p rfl rfl<|.p rfl rfl<|.g rfl (zC (K:=kD) (by rfl) y84)<|.nil) (.v rfl (.i<|.i<|.nil)<|.v rfl (.b<|.l<|.i<|.b<|.l<|.i<|.nil)<|.cons (.refl _) (zE (K:=kD) 26 y84)<|.nil) rfl
instance zHs (a0:za):PC (zfK a0) prog 220 [(.agg (kN.enc a0))] (fun r=>(.agg (kN.enc r))):=pc func220 (by kernel_rfl) rfl fun E=>by
 unfold zfK
 exact wk
instance zHt (a0:AD):PC (zcI a0) prog 162 [(.agg (kD.enc a0))] (fun r=>(.agg (kD.enc r))):=pc func162 (by kernel_rfl) rfl fun E=>by
 unfold zcI
 exact wk
instance zHu (a0:AI) (a1:Int) (a2:Int):CC (zd7 a0 a1 a2) prog 171 [(.ptr 0 0),(.agg (kI.enc a0))] [(.live 171 [(.int .i64 a1),(.int .i64 a2)])] (fun r=>(.agg (kI.enc r.1))) (fun r=>[(.live 171 [(.int .i64 a1),(.int .i64 r.2)])]):=cc func171 (by kernel_rfl) rfl fun E=>by
 unfold zd7
 exact wk
instance zHv (a0:AI) (a1:AI) (a2:Int) (a3:Int):CC (zbg a0 a1 a2 a3) prog 102 [(.ptr 0 0),(.agg (kI.enc a0)),(.agg (kI.enc a1))] [(.live 171 [(.int .i64 a2),(.int .i64 a3)])] (fun r=>(.agg (kI.enc r.1))) (fun r=>[(.live 171 [(.int .i64 a2),(.int .i64 r.2)])]):=cc func102 (by kernel_rfl) rfl fun E=>by
 unfold zbg
 exact wk
instance zHw (a0:AD) (a1:Int):PC (zbh a0 a1) prog 184 [(.agg (kD.enc a0)),(.int .i64 a1)] (fun r=>(.bool r)):=pc func184 (by kernel_rfl) rfl fun E=>by
 unfold zbh
 exact wk
instance zHx (a0:AD):PC (zfL a0) prog 221 [(.agg (kD.enc a0))] (fun r=>(.tup [(.int .i64 r.1),(.bool r.2)])):=pc func221 (by kernel_rfl) rfl fun E=>by
 unfold zfL
 exact wk
instance zHy (a0:AD) (a1:Int):PC (zbQ a0 a1) prog 223 [(.agg (kD.enc a0)),(.int .i64 a1)] (fun r=>(.tup [(.agg (kD.enc r.1)),(.int .i64 r.2)])):=pc func223 (by kernel_rfl) rfl fun E=>by
 unfold zbQ
 exact wk
instance zHz (a0:AI) (a1:Int) (a2:Int) (a3:Int):CC (ZF a0 a1 a2 a3) prog 164 [(.ptr 0 0),(.agg (kI.enc a0)),(.int .i64 a1)] [(.live 171 [(.int .i64 a2),(.int .i64 a3)])] (fun r=>(.agg (kI.enc r.1))) (fun r=>[(.live 171 [(.int .i64 a2),(.int .i64 r.2)])]):=cc func164 (by kernel_rfl) rfl fun E=>by
 unfold ZF
 exact wk
instance zHA (a0:List Int) (a1:Int):PC (zh6 a0 a1) prog 252 [(slK kU a0),(.int .i64 a1)] (fun r=>(slK kU r)):=pc func252 (by kernel_rfl) rfl fun E=>by
 unfold zh6
 refine .g 2 rfl<|.st rfl (as0 rfl) rfl<|.g 7 rfl<|.p0 rfl rfl fun x2 _=>.sv (slK kU x2.Mag) [] rfl (zwH _ _ _ _ _ _ _ _ rfl underlying24 rfl rfl rfl zxP rfl rfl rfl (Nat.le_of_ble_eq_true rfl)) rfl<|.g 4 rfl<|.fi rfl rfl
instance zHB (a0:List Int) (a1:Int):PC (zh7 a0 a1) prog 260 [(slK kU a0),(.int .u64 a1)] (fun r=>(.tup [(slK kU r.1),(slK kU r.2)])):=pc func260 (by kernel_rfl) rfl fun E=>by
 unfold zh7
 refine .g 2 rfl<|.st rfl (as0 rfl) rfl<|.st rfl (as0 rfl) rfl<|.g 5 rfl<|.ln rfl rfl<|.guard fun h1=>.sv (.row 0 (kInt .u32).sz 0 (((List.replicate a0.length (kInt .u32).z)).length)) [(0,(rwK kU 134 (List.replicate a0.length (kInt .u32).z)))] rfl (Q4 kU _ _ _ _ _ 0 _ _ _ rfl underlying22 q9 Zd (by decide) rfl rfl rfl rfl rfl h1) rfl<|.g 12 rfl<|.ln rfl rfl<|.g 4 rfl<|?_
 refine .cut (fun x:Int × (List Int)=>(zkY x.1 x.2,[(6,some (.row 0 (kInt .u32).sz 0 x.2.length)),eX 7 x.1],[(0,(rwK kU 134 x.2))])) ?_ ?_
 ·rintro ⟨y23,y24⟩
  dsimp only [zkY]
  refine .g 2 rfl<|?_
  refine .weak ?_ (fun a w h=>Conc.freezeK kU h 6 0 0 y24.length 134 y24 rfl rfl (by omega))
  refine .weak ?_ (fun a w h=>ZO h)
  refine .g 2 rfl<|.p0 rfl rfl fun x25 _=>.g 1 rfl<|.p0 rfl rfl fun x26 _=>.g 5 rfl<|.fi rfl rfl
 ·intro h34
  refine .g 1 rfl<|?_
  refine .lp (fun n (x:Int × Int × (List Int))=>zd8 a0 a1 n x.1 x.2.1 x.2.2) (fun x=>([eL 0 a0,eX 1 a1,(6,some (.row 0 (kInt .u32).sz 0 x.2.2.length)),eX 7 x.1,eI 8 x.2.1],[(0,(rwK kU 134 x.2.2))])) (0,(i64.wrap ((a0.length:Int)-1)),(List.replicate a0.length (kInt .u32).z)) [(0,0)] rfl ?_
  rintro n2 ⟨y30,y31,y32⟩
  try dsimp only
  rw [zd8]
  refine .g 7 rfl<|?_
  refine .cd rfl (fun _ _=>?_) fun _ _=>?_
  ·refine .g 10 rfl<|.ix rfl rfl<|.g 12 rfl<|.guard fun h62=>.st rfl (zjv _ _ _ _ _ _ _ rfl rfl rfl rfl rfl h62) rfl<|.g 1 rfl<|.guard fun h63=>?_
   obtain ⟨h631,h632⟩:=h63
   refine .sv (.rptr 0 (kInt .u32).sz y31.toNat 0) [] rfl (qc (qb _ _ _ _ _ 0 0 y32.length _ y31 rfl underlying22 zQ rfl rfl rfl rfl h631 (by omega)) (Nat.zero_add _)) rfl<|.sm [(0,(rwK kU 134 (y32.set y31.toNat (u32.wrap (u64.wrap ((orI .u64 (shlI .u64 y30 32) (u64.wrap (a0.getD y31.toNat (kInt .u32).z))).tdiv a1))))))] rfl (Zq kU _ _ _ 0 y31.toNat _ _ (u32.wrap (u64.wrap ((orI .u64 (shlI .u64 y30 32) (u64.wrap (a0.getD y31.toNat (kInt .u32).z))).tdiv a1))) _ rfl rfl rfl qx rfl rfl rfl rfl rfl rfl (by first | omega | (simp only [List.length_set]; omega))) rfl<|?_
   refine .weak ?_ (fun a w h=>Conc.relen h 6 (((y32.set y31.toNat (u32.wrap (u64.wrap ((orI .u64 (shlI .u64 y30 32) (u64.wrap (a0.getD y31.toNat (kInt .u32).z))).tdiv a1))))).length) rfl List.length_set.symm)
   refine .g 5 rfl<|.guard fun h64=>.st rfl (zjw _ _ _ _ _ _ _ rfl rfl rfl rfl rfl h64) rfl<|.g 9 rfl<|.ag (((orI .u64 (shlI .u64 y30 32) (u64.wrap (a0.getD y31.toNat (kInt .u32).z))).tmod a1),(i64.wrap (y31-1)),(y32.set y31.toNat (u32.wrap (u64.wrap ((orI .u64 (shlI .u64 y30 32) (u64.wrap (a0.getD y31.toNat (kInt .u32).z))).tdiv a1))))) [(0,0)] rfl
  ·refine .g 4 rfl<|.jw (h34 (y30,y32)) [(0,0)] rfl
instance zHC (a0:List Int) (a1:List Int):PC (zh8 a0 a1) prog 261 [(slK kU a0),(slK kU a1)] (fun r=>(.int .u64 r)):=pc func261 (by kernel_rfl) rfl fun E=>by
 unfold zh8
 exact wk
instance zHD (a0:List Int) (a1:List Int):PC (zia a0 a1) prog 253 [(slK kU a0),(slK kU a1)] (fun r=>(.tup [(slK kU r.1),(slK kU r.2.1),(.bool r.2.2)])):=pc func253 (by kernel_rfl) rfl fun E=>by
 unfold zia
 refine .g 10 rfl<|.p0 rfl rfl fun x694 _=>.g 7 rfl<|.ln rfl rfl<|.g 3 rfl<|?_
 refine .cd rfl (fun _ _=>?_) fun _ _=>?_
 ·refine .g 9 rfl<|.fj rfl rfl (by exact .tup (.cons AVle.nil (.cons AVle.nil (.cons (AVle.refl _) .nil))))
 ·refine .g 6 rfl<|.ln rfl rfl<|.g 3 rfl<|?_
  refine .cd rfl (fun _ _=>?_) fun _ _=>?_
  ·refine .g 4 rfl<|.ix rfl rfl<|.g 2 rfl<|.p0 rfl rfl fun x695 _=>.g 18 rfl<|.fi rfl rfl
  ·refine .g 5 rfl<|.ln rfl rfl<|.g 2 rfl<|.p0 rfl rfl fun x696 _=>.g 8 rfl<|.p0 rfl rfl fun x697 _=>.g 10 rfl<|.p0 rfl rfl fun x698 _=>.g 10 rfl<|.ln rfl rfl<|.guard fun h11=>.sv (.row 0 (kInt .u32).sz 0 (((List.replicate x698.1.length (kInt .u32).z)).length)) [(0,(rwK kU 134 (List.replicate x698.1.length (kInt .u32).z)))] rfl (Q4 kU _ _ _ _ _ 0 _ _ _ rfl underlying22 q9 Zd (by decide) rfl rfl rfl rfl rfl h11) rfl<|.g 12 rfl<|.ln rfl rfl<|?_
   refine .g 4 rfl<|?_
   refine .cut (fun x:(List Int) × (List Int)=>(zk0 x694 x696 x.1 x.2,[eI 10 (i64.wrap ((i64.wrap (32*(x694.length:Int)))-x696)),(13,some (.row 0 (kInt .u32).sz 0 x.2.length)),eL 14 x.1],[(0,(rwK kU 134 x.2))])) ?_ ?_
   ·rintro ⟨y1041,y1042⟩
    dsimp only [zk0]
    refine .g 2 rfl<|?_
    refine .weak ?_ (fun a w h=>Conc.freezeK kU h 13 0 0 y1042.length 134 y1042 rfl rfl (by omega))
    refine .weak ?_ (fun a w h=>ZO h)
    refine .g 2 rfl<|.p0 rfl rfl fun x1043 _=>.g 2 rfl<|.p0 rfl rfl fun x1044 _=>.g 6 rfl<|.fi rfl rfl
   ·intro h356
    refine .g 1 rfl<|?_
    refine .weak ?_ (fun a w h=>Conc.noV (Conc.put1 (x:=0) h (t:=14) (v':=slK kU []) rfl rfl AVle.nil (.refl _)))
    refine .lp (fun n (x:(List Int) × Int × (List Int))=>zaL x698 x697 x694 x696 n x.1 x.2.1 x.2.2) (fun x=>([eL 7 x697.1,eI 10 (i64.wrap ((i64.wrap (32*(x694.length:Int)))-x696)),eL 11 x698.1,(13,some (.row 0 (kInt .u32).sz 0 x.2.2.length)),eL 14 x.1,eI 15 x.2.1],[(0,(rwK kU 134 x.2.2))])) ([],(i64.wrap ((x698.1.length:Int)-1)),(List.replicate x698.1.length (kInt .u32).z)) [(0,0)] rfl ?_
    rintro n2 ⟨y1272,y1273,y1274⟩
    try dsimp only
    rw [zaL]
    refine .g 7 rfl<|?_
    refine .cd rfl (fun _ _=>?_) fun _ _=>?_
    ·refine .g 3 rfl<|?_
     refine .cut (fun x:(List Int) × (List Int)=>(zk1 (fun z0 z1 z2=>zaL x698 x697 x694 x696 n2 z0 z1 z2) y1273 x.1 x.2,[eL 7 x697.1,eI 10 (i64.wrap ((i64.wrap (32*(x694.length:Int)))-x696)),eL 11 x698.1,(13,some (.row 0 (kInt .u32).sz 0 x.2.length)),eL 14 x.1,eI 15 y1273],[(0,(rwK kU 134 x.2))])) ?_ ?_
     ·rintro ⟨y1330,y1331⟩
      dsimp only [zk1]
      refine .g 6 rfl<|.ag (y1330,(i64.wrap (y1273-1)),y1331) [(0,0)] rfl
     ·intro h643
      refine .g 5 rfl<|.ix rfl rfl<|.g 1 rfl<|.sv (.row 1 (kInt .u32).sz 0 (([(x698.1.getD y1273.toNat (kInt .u32).z)]).length)) [(1,(rwK kU 134 [(x698.1.getD y1273.toNat (kInt .u32).z)]))] rfl (zxk kU _ _ 1 1 _ _ [(0,(.int .u32 (x698.1.getD y1273.toNat (kInt .u32).z)))] [(x698.1.getD y1273.toNat (kInt .u32).z)] rfl underlying22 q9 zQ rfl rfl rfl rfl (by decide) (by decide) (by decide) rfl rfl rfl) rfl<|.g 1 rfl<|.guard fun h645=>.sv (.row 2 (kInt .u32).sz 0 ((([(x698.1.getD y1273.toNat (kInt .u32).z)]++y1272)).length)) [(2,(rwK kU 134 ([(x698.1.getD y1273.toNat (kInt .u32).z)]++y1272))),(1,.dead)] rfl (zxn kU _ _ _ _ _ 1 2 [(x698.1.getD y1273.toNat (kInt .u32).z)] y1272 rfl underlying22 q9 Zd rfl rfl rfl rfl rfl rfl h645) rfl<|?_
      refine .weak ?_ (fun a w h=>Conc.freezeK kU h 72 2 0 ((([(x698.1.getD y1273.toNat (kInt .u32).z)]++y1272)).length) 134 ([(x698.1.getD y1273.toNat (kInt .u32).z)]++y1272) rfl rfl (by omega))
      refine .weak ?_ (fun a w h=>ZO h)
      refine .p0 rfl rfl fun x1332 _=>.g 7 rfl<|.p0 rfl rfl fun x1333 _=>.g 8 rfl<|.p0 rfl rfl fun x1334 _=>.p0 rfl rfl fun x1335 _=>.p0 rfl rfl fun x1336 _=>.g 8 rfl<|?_
      refine .cut (fun x:Int × (List Int)=>(zh9 y1273 y1274 (fun z0 z1 z2=>zaL x698 x697 x694 x696 n2 z0 z1 z2) x.1 x.2,[eL 7 x697.1,eI 10 (i64.wrap ((i64.wrap (32*(x694.length:Int)))-x696)),eL 11 x698.1,(13,some (.row 0 (kInt .u32).sz 0 y1274.length)),eI 15 y1273,eX 16 x.1,eL 17 x.2],[(0,(rwK kU 134 y1274))])) ?_ ?_
      ·rintro ⟨y1361,y1362⟩
       dsimp only [zh9]
       refine .g 7 rfl<|.guard fun h675=>?_
       obtain ⟨h6751,h6752⟩:=h675
       refine .sv (.rptr 0 (kInt .u32).sz y1273.toNat 0) [] rfl (qc (qb _ _ _ _ _ 0 0 y1274.length _ y1273 rfl underlying22 zQ rfl rfl rfl rfl h6751 (by omega)) (Nat.zero_add _)) rfl<|.sm [(0,(rwK kU 134 (y1274.set y1273.toNat (u32.wrap y1361))))] rfl (Zq kU _ _ _ 0 y1273.toNat _ _ (u32.wrap y1361) _ rfl rfl rfl qx rfl rfl rfl rfl rfl rfl (by first | omega | (simp only [List.length_set]; omega))) rfl<|?_
       refine .weak ?_ (fun a w h=>Conc.relen h 13 (((y1274.set y1273.toNat (u32.wrap y1361))).length) rfl List.length_set.symm)
       refine .g 7 rfl<|.jw (h643 (y1362,(y1274.set y1273.toNat (u32.wrap y1361)))) [(0,0)] rfl
      ·intro h676
       refine .g 1 rfl<|?_
       refine .lp (fun n (x:Int × (List Int) × Bool)=>zd9 x697 x1332 y1273 y1274 (fun z0 z1 z2=>zaL x698 x697 x694 x696 n2 z0 z1 z2) n x.1 x.2.1 x.2.2) (fun x=>([eL 7 x697.1,eI 10 (i64.wrap ((i64.wrap (32*(x694.length:Int)))-x696)),eL 11 x698.1,(13,some (.row 0 (kInt .u32).sz 0 y1274.length)),eL 14 x1332,eI 15 y1273,eX 16 x.1,eL 17 x.2.1,eB 18 x.2.2],[(0,(rwK kU 134 y1274))])) (x1333,x1336.1,x1336.2) [(0,0)] rfl ?_
       rintro n5 ⟨y1378,y1379,y1380⟩
       try dsimp only
       rw [zd9]
       refine .g 7 rfl<|?_
       refine .cd rfl (fun _ _=>?_) fun _ _=>?_
       ·refine .g 14 rfl<|.p0 rfl rfl fun x1384 _=>.p0 rfl rfl fun x1385 _=>.p0 rfl rfl fun x1386 _=>.g 7 rfl<|.ag ((u64.wrap (y1378-1)),x1386.1,x1386.2) [(0,0)] rfl
       ·refine .g 4 rfl<|.jw (h676 (y1378,y1379)) [(0,0)] rfl
    ·refine .g 4 rfl<|.jw (h356 (y1272,y1274)) [(0,0)] rfl
instance zHE (a0:AD) (a1:AD) (a2:Int) (a3:Bool):PC (zfM a0 a1 a2 a3) prog 229 [(.agg (kD.enc a0)),(.agg (kD.enc a1)),(.int .i64 a2),(.bool a3)] (fun r=>(.tup [(.agg (kD.enc r.1)),(.int .i64 r.2)])):=pc func229 (by kernel_rfl) rfl fun E=>by
 unfold zfM
 exact wk
instance zHF (a0:AI) (a1:AI) (a2:Int) (a3:Int):CC (QN a0 a1 a2 a3) prog 167 [(.ptr 0 0),(.agg (kI.enc a0)),(.agg (kI.enc a1))] [(.live 171 [(.int .i64 a2),(.int .i64 a3)])] (fun r=>(.agg (kI.enc (⟨⟨r.1.Lo.M,r.1.Lo.E⟩,⟨r.1.Hi.M,r.1.Hi.E⟩⟩:AI)))) (fun r=>[(.live 171 [(.int .i64 a2),(.int .i64 r.2)])]):=cc func167 (by kernel_rfl) rfl fun E=>by
 unfold QN
 refine .g 13 rfl<|.st rfl (bs kI [a0,a1] rfl rfl) rfl<|.c0 [0] [] [true] rfl rfl (fun _=>rfl) (fun _=>rfl) fun x122 _=>.g 3 rfl<|?_
 refine .cd rfl (fun _ _=>?_) fun _ _=>?_
 ·refine .g 8 rfl<|.fi rfl rfl
 ·refine .g 7 rfl<|.p0 rfl rfl fun x123 _=>.g 2 rfl<|?_
  refine .cd rfl (fun _ _=>?_) fun _ _=>?_
  ·refine .g 3 rfl<|.c0 [0] [] [true] rfl rfl (fun _=>rfl) (fun _=>rfl) fun x124 _=>.g 10 rfl<|.fi rfl rfl
  ·refine .g 12 rfl<|.st rfl (bs kD [a0.Lo,a0.Lo,a0.Hi,a0.Hi] rfl rfl) rfl<|.g 13 rfl<|.st rfl (bs kD [a1.Lo,a1.Hi,a1.Lo,a1.Hi] rfl rfl) rfl<|.g 19 rfl<|?_
   refine .cut (fun x:Int × (List AD) × (List AD)=>(zk3 a2 x.1 x.2.1 x.2.2,[eP 0 0,eP 6 3,(9,some (grA kD 4 x.2.1)),(10,some (grA kD 5 x.2.2))],[(0,(.live 171 [(.int .i64 a2),(.int .i64 x.1)])),(3,(.live 37 [(.bool false),(slK kU []),(.int .i64 0),(.bool false),(slK kU []),(.int .i64 0)])),(4,(grV kD 26 x.2.1)),(5,(grV kD 26 x.2.2))])) ?_ ?_
   ·rintro ⟨y181,y182,y183⟩
    dsimp only [zk3]
    refine .g 2 rfl<|?_
    refine .weak ?_ (fun a w h=>Conc.gr_still kD h 9 4 26 y182 rfl rfl)
    refine .weak ?_ (fun a w h=>Conc.gr_still kD h 10 5 26 y183 rfl rfl)
    refine .g 3 rfl<|.p0 rfl rfl fun x184 _=>.g 1 rfl<|.p0 rfl rfl fun x185 _=>.c0 [0] [] [false] rfl rfl (fun _=>rfl) (fun _=>rfl) fun x186 _=>.g 4 rfl<|.fi rfl rfl
   ·intro h111
    refine .g 1 rfl<|?_
    refine .weak ?_ (fun a w h=>Conc.gr_nil kD h 9 4 26 rfl)
    refine .weak ?_ (fun a w h=>Conc.gr_nil kD h 10 5 26 rfl)
    refine .lo (fun n (x:Int × Int × (List AD) × (List AD))=>zaM a0 a1 a2 n x.1 x.2.1 x.2.2.1 x.2.2.2) (fun x=>([eP 0 0,eP 6 3,eK kD 7 [a0.Lo,a0.Lo,a0.Hi,a0.Hi],eK kD 8 [a1.Lo,a1.Hi,a1.Lo,a1.Hi],(9,some (grA kD 4 x.2.2.1)),(10,some (grA kD 5 x.2.2.2)),eI 11 x.1],[(0,(.live 171 [(.int .i64 a2),(.int .i64 x.2.1)])),(3,(.live 37 [(.bool false),(slK kU []),(.int .i64 0),(.bool false),(slK kU []),(.int .i64 0)])),(4,(grV kD 26 x.2.2.1)),(5,(grV kD 26 x.2.2.2))])) (0,x122.2,[],[]) rfl (fun hE=>jn (m:=1) [(0,0),(3,3),(4,4),(5,5)] hE (.p rfl rfl<|.p rfl rfl<|.l rfl<|.l rfl<|.g rfl (zC (K:=kD) (by rfl) [])<|.g rfl (zC (K:=kD) (by rfl) [])<|.i rfl<|.nil) (.v rfl (.i<|.i<|.nil)<|.v rfl (.b<|.l<|.i<|.b<|.l<|.i<|.nil)<|.cons (.refl _) (zE (K:=kD) 26 [])<|.cons (.refl _) (zE (K:=kD) 26 [])<|.nil) rfl) ?_
    rintro n2 ⟨y223,y224,y225,y226⟩
    try dsimp only
    rw [zaM]
    refine .g 7 rfl<|?_
    refine .cd rfl (fun _ _=>?_) fun _ _=>?_
    ·refine .g 8 rfl<|.ix rfl rfl<|.g 3 rfl<|.ix rfl rfl<|.g 5 rfl<|.p0 rfl rfl fun x235 _=>.g 6 rfl<|.dn (by kernel_rfl)<|.g 5 rfl<|.ix rfl rfl<|.g 3 rfl<|.ix rfl rfl<|.g 5 rfl<|.p0 rfl rfl fun x236 _=>?_
     refine .g 6 rfl<|.dn (by kernel_rfl)<|.g 3 rfl<|?_
     refine .cut (fun x:Bool × Int=>(zib x235 y225 x236 y226 (fun z0 z1 z2 z3=>zaM a0 a1 a2 n2 z0 z1 z2 z3) y223 x.1 x.2,[eP 0 0,eP 6 3,eK kD 7 [a0.Lo,a0.Lo,a0.Hi,a0.Hi],eK kD 8 [a1.Lo,a1.Hi,a1.Lo,a1.Hi],(9,some (grA kD 4 y225)),(10,some (grA kD 5 y226)),eI 11 y223,eP 12 1,eP 14 2,eB 92 x.1],[(0,(.live 171 [(.int .i64 a2),(.int .i64 x.2)])),(3,(.live 37 [(.bool false),(slK kU []),(.int .i64 0),(.bool false),(slK kU []),(.int .i64 0)])),(4,(grV kD 26 y225)),(5,(grV kD 26 y226)),(1,(.live 26 [(.bool x235.1.M.Neg),(slK kU x235.1.M.Mag),(.int .i64 x235.1.E)])),(2,(.live 26 [(.bool x236.1.M.Neg),(slK kU x236.1.M.Mag),(.int .i64 x236.1.E)]))])) ?_ ?_
     ·rintro ⟨y239,y240⟩
      dsimp only [zib]
      refine .g 1 rfl<|?_
      refine .cd rfl (fun _ _=>?_) fun _ _=>?_
      ·refine .g 13 rfl<|.fi rfl rfl
      ·refine .g 6 rfl<|.st rfl (bs kD [(⟨x235.1.M,x235.1.E⟩:AD)] rfl rfl) rfl<|.guard fun h207=>.sv (.row 6 kD.sz 0 (((y225++[(⟨x235.1.M,x235.1.E⟩:AD)])).length)) [(6,(rwK kD 26 (y225++[(⟨x235.1.M,x235.1.E⟩:AD)]))),(4,.dead)] rfl (zax kD _ _ _ _ _ 4 6 y225 [(⟨x235.1.M,x235.1.E⟩:AD)] rfl underlying90 zii zij rfl rfl rfl rfl rfl rfl rfl h207) rfl<|.g 6 rfl<|.st rfl (bs kD [(⟨x236.1.M,x236.1.E⟩:AD)] rfl rfl) rfl<|.guard fun h208=>.sv (.row 7 kD.sz 0 (((y226++[(⟨x236.1.M,x236.1.E⟩:AD)])).length)) [(7,(rwK kD 26 (y226++[(⟨x236.1.M,x236.1.E⟩:AD)]))),(5,.dead)] rfl (zax kD _ _ _ _ _ 5 7 y226 [(⟨x236.1.M,x236.1.E⟩:AD)] rfl underlying90 zii zij rfl rfl rfl rfl rfl rfl rfl h208) rfl<|.g 9 rfl<|?_
       refine .weak ?_ (fun a w h=>Conc.gr_row kD h 9 6 26 (y225++[(⟨x235.1.M,x235.1.E⟩:AD)]) rfl rfl (by first | omega | (simp only [List.length_append,List.length_cons,List.length_set]; omega) | simp))
       refine .weak ?_ (fun a w h=>Conc.gr_row kD h 10 7 26 (y226++[(⟨x236.1.M,x236.1.E⟩:AD)]) rfl rfl (by first | omega | (simp only [List.length_append,List.length_cons,List.length_set]; omega) | simp))
       exact .ao ((i64.wrap (y223+1)),y240,(y225++[(⟨x235.1.M,x235.1.E⟩:AD)]),(y226++[(⟨x236.1.M,x236.1.E⟩:AD)])) rfl fun hE=>jn (m:=1) [(0,0),(3,3),(6,4),(7,5)] hE (.p rfl rfl<|.p rfl rfl<|.l rfl<|.l rfl<|.g rfl (zC (K:=kD) (by rfl) (y225++[(⟨x235.1.M,x235.1.E⟩:AD)]))<|.g rfl (zC (K:=kD) (by rfl) (y226++[(⟨x236.1.M,x236.1.E⟩:AD)]))<|.i rfl<|.nil) (.v rfl (.i<|.i<|.nil)<|.v rfl (.b<|.l<|.i<|.b<|.l<|.i<|.nil)<|.cons (.refl _) (zE (K:=kD) 26 (y225++[(⟨x235.1.M,x235.1.E⟩:AD)]))<|.cons (.refl _) (zE (K:=kD) 26 (y226++[(⟨x236.1.M,x236.1.E⟩:AD)]))<|.nil) rfl
     ·intro h209
      refine .g 3 rfl<|.c0 [0] [] [true] rfl rfl (fun _=>rfl) (fun _=>rfl) fun x241 _=>.g 2 rfl<|?_
      refine .gd 87 rfl (fun _=>?_) fun _=>?_
      ·refine .g 6 rfl<|.jo (h209 (true,x241.2)) rfl fun hE=>jn (m:=1) [(0,0),(3,3),(4,4),(5,5),(1,1),(2,2)] hE (.p rfl rfl<|.p rfl rfl<|.l rfl<|.l rfl<|.g rfl (zC (K:=kD) (by rfl) y225)<|.g rfl (zC (K:=kD) (by rfl) y226)<|.i rfl<|.p rfl rfl<|.p rfl rfl<|.b rfl<|.nil) (.v rfl (.i<|.i<|.nil)<|.v rfl (.b<|.l<|.i<|.b<|.l<|.i<|.nil)<|.cons (.refl _) (zE (K:=kD) 26 y225)<|.cons (.refl _) (zE (K:=kD) 26 y226)<|.v rfl (.b<|.l<|.i<|.nil)<|.v rfl (.b<|.l<|.i<|.nil)<|.nil) rfl
      ·refine .g 2 rfl<|.c0 [0] [] [true] rfl rfl (fun _=>rfl) (fun _=>rfl) fun x242 _=>.g 3 rfl<|.jo (h209 ((!x242.1),x242.2)) rfl fun hE=>jn (m:=1) [(0,0),(3,3),(4,4),(5,5),(1,1),(2,2)] hE (.p rfl rfl<|.p rfl rfl<|.l rfl<|.l rfl<|.g rfl (zC (K:=kD) (by rfl) y225)<|.g rfl (zC (K:=kD) (by rfl) y226)<|.i rfl<|.p rfl rfl<|.p rfl rfl<|.b rfl<|.nil) (.v rfl (.i<|.i<|.nil)<|.v rfl (.b<|.l<|.i<|.b<|.l<|.i<|.nil)<|.cons (.refl _) (zE (K:=kD) 26 y225)<|.cons (.refl _) (zE (K:=kD) 26 y226)<|.v rfl (.b<|.l<|.i<|.nil)<|.v rfl (.b<|.l<|.i<|.nil)<|.nil) rfl
    ·refine .g 4 rfl<|.jo (h111 (y224,y225,y226)) rfl fun hE=>jn (m:=1) [(0,0),(3,3),(4,4),(5,5)] hE (.p rfl rfl<|.p rfl rfl<|.g rfl (zC (K:=kD) (by rfl) y225)<|.g rfl (zC (K:=kD) (by rfl) y226)<|.nil) (.v rfl (.i<|.i<|.nil)<|.v rfl (.b<|.l<|.i<|.b<|.l<|.i<|.nil)<|.cons (.refl _) (zE (K:=kD) 26 y225)<|.cons (.refl _) (zE (K:=kD) 26 y226)<|.nil) rfl
instance zHG (a0:AI) (a1:AI):PC (zfN a0 a1) prog 259 [(.agg (kI.enc a0)),(.agg (kI.enc a1))] (fun r=>(.bool r)):=pc func259 (by kernel_rfl) rfl fun E=>by
 unfold zfN
 exact wk
instance zHH (a0:AI) (a1:Int) (a2:Int) (a3:Int):CC (zea a0 a1 a2 a3) prog 247 [(.ptr 0 0),(.agg (kI.enc a0)),(.int .i64 a1)] [(.live 171 [(.int .i64 a2),(.int .i64 a3)])] (fun r=>(.bool r.1)) (fun r=>[(.live 171 [(.int .i64 a2),(.int .i64 r.2)])]):=cc func247 (by kernel_rfl) rfl fun E=>by
 unfold zea
 exact wk
instance zHI (a0:Int):PC (zeb a0) prog 248 [(.int .i64 a0)] (fun r=>(.int .i64 r)):=pc func248 (by kernel_rfl) rfl fun E=>by
 unfold zeb
 exact wk
instance zHJ (a0:AI) (a1:AD) (a2:Int) (a3:Int):CC (zec a0 a1 a2 a3) prog 169 [(.ptr 0 0),(.agg (kI.enc a0)),(.agg (kD.enc a1))] [(.live 171 [(.int .i64 a2),(.int .i64 a3)])] (fun r=>(.agg (kI.enc r.1))) (fun r=>[(.live 171 [(.int .i64 a2),(.int .i64 r.2)])]):=cc func169 (by kernel_rfl) rfl fun E=>by
 unfold zec
 exact wk
instance zHK (a0:AI) (a1:Int) (a2:Int):CC (zed a0 a1 a2) prog 249 [(.ptr 0 0),(.agg (kI.enc a0))] [(.live 171 [(.int .i64 a1),(.int .i64 a2)])] (fun r=>(.agg (kI.enc r.1))) (fun r=>[(.live 171 [(.int .i64 a1),(.int .i64 r.2)])]):=cc func249 (by kernel_rfl) rfl fun E=>by
 unfold zed
 exact wk
instance {a1 x122} : L14 (zfO a1 x122) fun ya yb yc yd ye yf yg yh yi yj yk yl ym yn=>([eP 0 0,eP 4 2,eP 5 3,eP 6 4,eP 7 5,eI 8 ya],[(0,(.live 171 [(.int .i64 a1),(.int .i64 yb)])),(2,(.live 37 [(.bool false),(slK kU []),(.int .i64 0),(.bool false),(slK kU []),(.int .i64 0)])),(3,(.live 37 [(.bool x122.1.Lo.M.Neg),(slK kU x122.1.Lo.M.Mag),(.int .i64 x122.1.Lo.E),(.bool x122.1.Hi.M.Neg),(slK kU x122.1.Hi.M.Mag),(.int .i64 x122.1.Hi.E)])),(4,(.live 37 [(.bool yc),(slK kU yd),(.int .i64 ye),(.bool yf),(slK kU yg),(.int .i64 yh)])),(5,(.live 37 [(.bool yi),(slK kU yj),(.int .i64 yk),(.bool yl),(slK kU ym),(.int .i64 yn)]))]):={}
instance zHL (a0:AI) (a1:Int) (a2:Int):CC (zee a0 a1 a2) prog 267 [(.ptr 0 0),(.agg (kI.enc a0))] [(.live 171 [(.int .i64 a1),(.int .i64 a2)])] (fun r=>(.agg (kI.enc r.1))) (fun r=>[(.live 171 [(.int .i64 a1),(.int .i64 r.2)])]):=cc func267 (by kernel_rfl) rfl fun E=>by
 unfold zee
 exact wk
instance zHM (a0:Int) (a1:Int):CC (zic a0 a1) prog 268 [(.ptr 0 0)] [(.live 171 [(.int .i64 a0),(.int .i64 a1)])] (fun r=>(.agg (kI.enc r.1))) (fun r=>[(.live 171 [(.int .i64 a0),(.int .i64 r.2)])]):=cc func268 (by kernel_rfl) rfl fun E=>by
 unfold zic
 exact wk
instance zHN (a0:AI) (a1:Int) (a2:Int):CC (zef a0 a1 a2) prog 172 [(.ptr 0 0),(.agg (kI.enc a0))] [(.live 171 [(.int .i64 a1),(.int .i64 a2)])] (fun r=>(.agg (kI.enc r.1))) (fun r=>[(.live 171 [(.int .i64 a1),(.int .i64 r.2)])]):=cc func172 (by kernel_rfl) rfl fun E=>by
 unfold zef
 exact wk
instance zHO (a0:AI) (a1:Int) (a2:Int) (a3:Int):CC (QO a0 a1 a2 a3) prog 101 [(.ptr 0 0),(.agg (kI.enc a0)),(.int .i64 a1)] [(.live 171 [(.int .i64 a2),(.int .i64 a3)])] (fun r=>(.tup [(.agg (kI.enc r.1)),(.int .i64 r.2)])) (fun r=>[(.live 171 [(.int .i64 a2),(.int .i64 a3)])]):=cc func101 (by kernel_rfl) rfl fun E=>by
 unfold QO
 exact wk
instance zHP (a0:AD) (a1:Int):PC (zfP a0 a1) prog 258 [(.agg (kD.enc a0)),(.int .i64 a1)] (fun r=>(.tup [(.agg (kI.enc r.1)),(.int .i64 r.2)])):=pc func258 (by kernel_rfl) rfl fun E=>by
 unfold zfP
 exact wk
instance zHQ (a0:AI) (a1:Int):PC (zid a0 a1) prog 234 [(.agg (kI.enc a0)),(.int .i64 a1)] (fun r=>(.tup [(.agg (kI.enc r.1)),(.int .i64 r.2)])):=pc func234 (by kernel_rfl) rfl fun E=>by
 unfold zid
 exact wk
instance zHR (a0:AI) (a1:Int) (a2:Int):CC (zeg a0 a1 a2) prog 181 [(.ptr 0 0),(.agg (kI.enc a0))] [(.live 171 [(.int .i64 a1),(.int .i64 a2)])] (fun r=>(.agg (kI.enc r.1))) (fun r=>[(.live 171 [(.int .i64 a1),(.int .i64 r.2)])]):=cc func181 (by kernel_rfl) rfl fun E=>by
 unfold zeg
 exact wk
instance {a1 x134} : L14 (zfQ a1 x134) fun ya yb yc yd ye yf yg yh yi yj yk yl ym yn=>([eP 0 0,eP 4 2,eP 5 3,eP 6 4,eP 7 5,eI 8 ya],[(0,(.live 171 [(.int .i64 a1),(.int .i64 yb)])),(2,(.live 37 [(.bool false),(slK kU []),(.int .i64 0),(.bool false),(slK kU []),(.int .i64 0)])),(3,(.live 37 [(.bool x134.1.Lo.M.Neg),(slK kU x134.1.Lo.M.Mag),(.int .i64 x134.1.Lo.E),(.bool x134.1.Hi.M.Neg),(slK kU x134.1.Hi.M.Mag),(.int .i64 x134.1.Hi.E)])),(4,(.live 37 [(.bool yc),(slK kU yd),(.int .i64 ye),(.bool yf),(slK kU yg),(.int .i64 yh)])),(5,(.live 37 [(.bool yi),(slK kU yj),(.int .i64 yk),(.bool yl),(slK kU ym),(.int .i64 yn)]))]):={}
instance zHS (a0:AI) (a1:Int) (a2:Int):CC (zeh a0 a1 a2) prog 235 [(.ptr 0 0),(.agg (kI.enc a0))] [(.live 171 [(.int .i64 a1),(.int .i64 a2)])] (fun r=>(.agg (kI.enc r.1))) (fun r=>[(.live 171 [(.int .i64 a1),(.int .i64 r.2)])]):=cc func235 (by kernel_rfl) rfl fun E=>by
 unfold zeh
 exact wk
instance zHT (a0:Int) (a1:Int):CC (zie a0 a1) prog 182 [(.ptr 0 0)] [(.live 171 [(.int .i64 a0),(.int .i64 a1)])] (fun r=>(.agg (kI.enc r.1))) (fun r=>[(.live 171 [(.int .i64 a0),(.int .i64 r.2)])]):=cc func182 (by kernel_rfl) rfl fun E=>by
 unfold zie
 exact wk
instance {a1 x279 x276 y322 y323 y324 y325 y326 y327} : L14 (zfR a1 x279 x276 y322 y323 y324 y325 y326 y327) fun ya yb yc yd ye yf yg yh yi yj yk yl ym yn=>([eP 0 0,eP 4 2,eI 5 x276.1,eP 7 3,eP 8 4,eP 11 5,eP 12 6,eI 13 ya],[(0,(.live 171 [(.int .i64 a1),(.int .i64 yb)])),(2,(.live 37 [(.bool false),(slK kU []),(.int .i64 0),(.bool false),(slK kU []),(.int .i64 0)])),(3,(.live 37 [(.bool x279.1.Lo.M.Neg),(slK kU x279.1.Lo.M.Mag),(.int .i64 x279.1.Lo.E),(.bool x279.1.Hi.M.Neg),(slK kU x279.1.Hi.M.Mag),(.int .i64 x279.1.Hi.E)])),(4,(.live 37 [(.bool y322),(slK kU y323),(.int .i64 y324),(.bool y325),(slK kU y326),(.int .i64 y327)])),(5,(.live 37 [(.bool yc),(slK kU yd),(.int .i64 ye),(.bool yf),(slK kU yg),(.int .i64 yh)])),(6,(.live 37 [(.bool yi),(slK kU yj),(.int .i64 yk),(.bool yl),(slK kU ym),(.int .i64 yn)]))]):={}
instance {x276 a0 a1 x279} : L8 (zfS x276 a0 a1 x279) fun ya yb yc yd ye yf yg yh=>([eP 0 0,eP 3 1,eP 4 2,eI 5 x276.1,eP 7 3,eP 8 4,eI 9 ya],[(0,(.live 171 [(.int .i64 a1),(.int .i64 yb)])),(1,(.live 26 [(.bool a0.M.Neg),(slK kU a0.M.Mag),(.int .i64 a0.E)])),(2,(.live 37 [(.bool false),(slK kU []),(.int .i64 0),(.bool false),(slK kU []),(.int .i64 0)])),(3,(.live 37 [(.bool x279.1.Lo.M.Neg),(slK kU x279.1.Lo.M.Mag),(.int .i64 x279.1.Lo.E),(.bool x279.1.Hi.M.Neg),(slK kU x279.1.Hi.M.Mag),(.int .i64 x279.1.Hi.E)])),(4,(.live 37 [(.bool yc),(slK kU yd),(.int .i64 ye),(.bool yf),(slK kU yg),(.int .i64 yh)]))]):={}
instance zHU (a0:AD) (a1:Int) (a2:Int):CC (zei a0 a1 a2) prog 114 [(.ptr 0 0),(.agg (kD.enc a0))] [(.live 171 [(.int .i64 a1),(.int .i64 a2)])] (fun r=>(.agg (kI.enc r.1))) (fun r=>[(.live 171 [(.int .i64 a1),(.int .i64 r.2)])]):=cc func114 (by kernel_rfl) rfl fun E=>by
 unfold zei
 exact wk
instance zHV (a0:AD) (a1:Int):PC (zbR a0 a1) prog 51 [(.agg (kD.enc a0)),(.int .i64 a1)] (fun r=>(.tup [(.agg (kI.enc r.1)),(.int .i64 r.2)])):=pc func51 (by kernel_rfl) rfl fun E=>by
 unfold zbR
 exact wk
instance {a0 a1} : L1 (zfT a0 a1) fun ya=>([eP 2 0,eP 3 1,eI 5 ya],[(0,(.live 24 [(.bool a0.Neg),(slK kU a0.Mag)])),(1,(.live 24 [(.bool a1.Neg),(slK kU a1.Mag)]))]):={}
instance zHW (a0:za) (a1:za):PC (zif a0 a1) prog 208 [(.agg (kN.enc a0)),(.agg (kN.enc a1))] (fun r=>(.bool r)):=pc func208 (by kernel_rfl) rfl fun E=>by
 unfold zif
 exact wk
instance zHX (a0:AD) (a1:AD):PC (zfU a0 a1) prog 142 [(.agg (kD.enc a0)),(.agg (kD.enc a1))] (fun r=>(.bool r)):=pc func142 (by kernel_rfl) rfl fun E=>by
 unfold zfU
 exact wk
instance zHY (a0:AI) (a1:AI):PC (zig a0 a1) prog 79 [(.agg (kI.enc a0)),(.agg (kI.enc a1))] (fun r=>(.bool r)):=pc func79 (by kernel_rfl) rfl fun E=>by
 unfold zig
 exact wk
instance zHZ (a0:AI) (a1:AI):PC (zfV a0 a1) prog 52 [(.agg (kI.enc a0)),(.agg (kI.enc a1))] (fun r=>(.bool r)):=pc func52 (by kernel_rfl) rfl fun E=>by
 unfold zfV
 exact wk
end Go.Proofs.YtjffljhmjdljeaaGreat.Gen
