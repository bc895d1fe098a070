/- Printed by geng.py: a call does what the plain function says. -/
import Derived.Test.YtjffljhmjdljeaaGreatGammToldGenP0
set_option linter.unusedVariables false
set_option linter.unusedSimpArgs false
set_option maxRecDepth 4000
set_option maxHeartbeats 1000000
set_option synthInstance.maxSize 4000
set_option synthInstance.maxHeartbeats 400000
namespace Go.Proofs.YtjffljhmjdljeaaGreat.Gen
open Go Go.Abs Go.Proofs Go.Proofs.Tryz
open Go.IntKind (i64 u64 u32)
instance zFC (a0:List Int) (a1:List Int):PC (zdM a0 a1) prog 195 [(slK kU a0),(slK kU a1)] (fun r=>(slK kU r)):=pc func195 (by kernel_rfl) rfl fun E=>by
 unfold zdM
 refine .g 2 rfl<|.st rfl (as0 rfl) rfl<|.g 5 rfl<|.p0 rfl rfl fun x187 _=>.g 1 rfl<|.p0 rfl rfl fun x188 _=>.g 7 rfl<|.ln rfl rfl<|.g 1 rfl<|.ln rfl rfl<|.g 1 rfl<|.guard fun h3=>.sv (.row 0 (kInt .u32).sz 0 (((List.replicate ((i64.wrap ((x187.length:Int)+(x188.length:Int))).toNat) (kInt .u32).z)).length)) [(0,(rwK kU 134 (List.replicate ((i64.wrap ((x187.length:Int)+(x188.length:Int))).toNat) (kInt .u32).z)))] rfl (Q4 kU _ _ _ _ _ 0 _ _ _ rfl underlying22 q9 Zd (by decide) rfl rfl rfl rfl rfl h3) rfl<|.g 7 rfl<|?_
 refine .ln rfl rfl<|.g 3 rfl<|?_
 refine .cut (fun x:(List Int)=>(zkc x,[(5,some (.row 0 (kInt .u32).sz 0 x.length))],[(0,(rwK kU 134 x))])) ?_ ?_
 ·rintro y280
  dsimp only [zkc]
  refine .g 2 rfl<|?_
  refine .weak ?_ (fun a w h=>Conc.freezeK kU h 5 0 0 y280.length 134 y280 rfl rfl (by omega))
  refine .weak ?_ (fun a w h=>ZO h)
  refine .g 2 rfl<|.p0 rfl rfl fun x281 _=>.g 4 rfl<|.fi rfl rfl
 ·intro h311
  refine .g 1 rfl<|?_
  refine .lp (fun n (x:Int × (List Int))=>Q9 x187 x188 n x.1 x.2) (fun x=>([eL 1 x188,(5,some (.row 0 (kInt .u32).sz 0 x.2.length)),eL 22 x187,eI 23 (x187.length:Int),eI 24 x.1],[(0,(rwK kU 134 x.2))])) (0,(List.replicate ((i64.wrap ((x187.length:Int)+(x188.length:Int))).toNat) (kInt .u32).z)) [(0,0)] rfl ?_
  rintro n2 ⟨y342,y343⟩
  try dsimp only
  rw [Q9]
  refine .g 6 rfl<|?_
  refine .cd rfl (fun _ _=>?_) fun _ _=>?_
  ·refine .g 3 rfl<|?_
   refine .cut (fun x:(List Int)=>(zkd (fun z0 z1=>Q9 x187 x188 n2 z0 z1) y342 x,[eL 1 x188,(5,some (.row 0 (kInt .u32).sz 0 x.length)),eL 22 x187,eI 23 (x187.length:Int),eI 24 y342],[(0,(rwK kU 134 x))])) ?_ ?_
   ·rintro y358
    dsimp only [zkd]
    refine .g 5 rfl<|.ag ((i64.wrap (y342+1)),y358) [(0,0)] rfl
   ·intro h568
    refine .g 4 rfl<|.ix rfl rfl<|.g 14 rfl<|.ln rfl rfl<|.g 3 rfl<|?_
    refine .cut (fun x:Int × (List Int)=>(zke y342 x188 (fun z0 z1=>Q9 x187 x188 n2 z0 z1) x.1 x.2,[eL 1 x188,(5,some (.row 0 (kInt .u32).sz 0 x.2.length)),eI 6 y342,eX 8 x.1,eL 22 x187,eI 23 (x187.length:Int),eI 24 y342],[(0,(rwK kU 134 x.2))])) ?_ ?_
    ·rintro ⟨y365,y366⟩
     dsimp only [zke]
     refine .g 5 rfl<|.ln rfl rfl<|.g 3 rfl<|.guard fun h594=>?_
     obtain ⟨h5941,h5942⟩:=h594
     refine .sv (.rptr 0 (kInt .u32).sz ((i64.wrap (y342+(x188.length:Int))).toNat) 0) [] rfl (qc (qb _ _ _ _ _ 0 0 y366.length _ (i64.wrap (y342+(x188.length:Int))) rfl underlying22 zQ rfl rfl rfl rfl h5941 (by omega)) (Nat.zero_add _)) rfl<|.sm [(0,(rwK kU 134 (y366.set ((i64.wrap (y342+(x188.length:Int))).toNat) (u32.wrap y365))))] rfl (Zq kU _ _ _ 0 ((i64.wrap (y342+(x188.length:Int))).toNat) _ _ (u32.wrap y365) _ rfl rfl rfl qx rfl rfl rfl rfl rfl rfl (by first | omega | (simp only [List.length_set]; omega))) rfl<|?_
     refine .weak ?_ (fun a w h=>Conc.relen h 5 (((y366.set ((i64.wrap (y342+(x188.length:Int))).toNat) (u32.wrap y365))).length) rfl List.length_set.symm)
     refine .g 2 rfl<|.jw (h568 (y366.set ((i64.wrap (y342+(x188.length:Int))).toNat) (u32.wrap y365))) [(0,0)] rfl
    ·intro h595
     refine .g 1 rfl<|?_
     refine .lp (fun n (x:Int × Int × (List Int))=>zdL x188 y342 x187 (fun z0 z1=>Q9 x187 x188 n2 z0 z1) n x.1 x.2.1 x.2.2) (fun x=>([eL 1 x188,(5,some (.row 0 (kInt .u32).sz 0 x.2.2.length)),eI 6 y342,eW 7 (x187.getD y342.toNat (kInt .u32).z),eX 8 x.1,eL 22 x187,eI 23 (x187.length:Int),eI 24 y342,eL 29 x188,eI 30 (x188.length:Int),eI 31 x.2.1],[(0,(rwK kU 134 x.2.2))])) (0,0,y343) [(0,0)] rfl ?_
     rintro n5 ⟨y370,y371,y372⟩
     try dsimp only
     rw [zdL]
     refine .g 6 rfl<|?_
     refine .cd rfl (fun _ _=>?_) fun _ _=>?_
     ·refine .g 7 rfl<|.ix rfl rfl<|.g 16 rfl<|.guard fun h618=>?_
      obtain ⟨h6181,h6182⟩:=h618
      refine .sv (.rptr 0 (kInt .u32).sz ((i64.wrap (y342+y371)).toNat) 0) [] rfl (qc (qb _ _ _ _ _ 0 0 y372.length _ (i64.wrap (y342+y371)) rfl underlying22 zQ rfl rfl rfl rfl h6181 (by omega)) (Nat.zero_add _)) rfl<|.sv (.int .u32 (y372.getD ((i64.wrap (y342+y371)).toNat) (kInt .u32).z)) [] rfl (zaW kU _ _ 0 ((i64.wrap (y342+y371)).toNat) 0 _ _ rfl qx rfl rfl rfl rfl (by first | omega | (simp only [List.length_set]; omega)) (by decide)) rfl<|.g 16 rfl<|.guard fun h619=>?_
      obtain ⟨h6191,h6192⟩:=h619
      refine .sv (.rptr 0 (kInt .u32).sz ((i64.wrap (y342+y371)).toNat) 0) [] rfl (qc (qb _ _ _ _ _ 0 0 y372.length _ (i64.wrap (y342+y371)) rfl underlying22 zQ rfl rfl rfl rfl h6191 (by omega)) (Nat.zero_add _)) rfl<|.sm [(0,(rwK kU 134 (y372.set ((i64.wrap (y342+y371)).toNat) (u32.wrap (u64.wrap ((u64.wrap ((u64.wrap ((u64.wrap (x187.getD y342.toNat (kInt .u32).z))*(u64.wrap (x188.getD y371.toNat (kInt .u32).z))))+(u64.wrap (y372.getD ((i64.wrap (y342+y371)).toNat) (kInt .u32).z))))+y370))))))] rfl (Zq kU _ _ _ 0 ((i64.wrap (y342+y371)).toNat) _ _ (u32.wrap (u64.wrap ((u64.wrap ((u64.wrap ((u64.wrap (x187.getD y342.toNat (kInt .u32).z))*(u64.wrap (x188.getD y371.toNat (kInt .u32).z))))+(u64.wrap (y372.getD ((i64.wrap (y342+y371)).toNat) (kInt .u32).z))))+y370))) _ rfl rfl rfl qx rfl rfl rfl rfl rfl rfl (by first | omega | (simp only [List.length_set]; omega))) rfl<|?_
      refine .weak ?_ (fun a w h=>Conc.relen h 5 (((y372.set ((i64.wrap (y342+y371)).toNat) (u32.wrap (u64.wrap ((u64.wrap ((u64.wrap ((u64.wrap (x187.getD y342.toNat (kInt .u32).z))*(u64.wrap (x188.getD y371.toNat (kInt .u32).z))))+(u64.wrap (y372.getD ((i64.wrap (y342+y371)).toNat) (kInt .u32).z))))+y370))))).length) rfl List.length_set.symm)
      refine .g 8 rfl<|.ag ((shrI .u64 (u64.wrap ((u64.wrap ((u64.wrap ((u64.wrap (x187.getD y342.toNat (kInt .u32).z))*(u64.wrap (x188.getD y371.toNat (kInt .u32).z))))+(u64.wrap (y372.getD ((i64.wrap (y342+y371)).toNat) (kInt .u32).z))))+y370)) 32),(i64.wrap (y371+1)),(y372.set ((i64.wrap (y342+y371)).toNat) (u32.wrap (u64.wrap ((u64.wrap ((u64.wrap ((u64.wrap (x187.getD y342.toNat (kInt .u32).z))*(u64.wrap (x188.getD y371.toNat (kInt .u32).z))))+(u64.wrap (y372.getD ((i64.wrap (y342+y371)).toNat) (kInt .u32).z))))+y370))))) [(0,0)] rfl
     ·refine .g 4 rfl<|.jw (h595 (y370,y372)) [(0,0)] rfl
  ·refine .g 4 rfl<|.jw (h311 y343) [(0,0)] rfl
instance zFD (a0:AD) (a1:AD):PC (zhs a0 a1) prog 128 [(.agg (kD.enc a0)),(.agg (kD.enc a1))] (fun r=>(.tup [(.agg (kD.enc r.1)),(.int .i64 r.2)])):=pc func128 (by kernel_rfl) rfl fun E=>by
 unfold zhs
 exact wk
instance zFE (a0:AI) (a1:AI) (a2:Int) (a3:Int):CC (zhu a0 a1 a2 a3) prog 77 [(.ptr 0 0),(.agg (kI.enc a0)),(.agg (kI.enc a1)),(.fn 128 [] [])] [(.live 54 [(.int .i64 a2),(.int .i64 a3)])] (fun r=>(slK kD r.1)) (fun r=>[(.live 54 [(.int .i64 r.2),(.int .i64 a3)])]):=cc func77 (by kernel_rfl) rfl fun E=>by
 unfold zhu
 refine .g 13 rfl<|.st rfl (bs kD [a0.Lo,a0.Hi] rfl rfl) rfl<|.g 4 rfl<|.st rfl (bs kD [a1.Lo,a1.Hi] rfl rfl) rfl<|.g 2 rfl<|.dn (by kernel_rfl)<|.g 8 rfl<|.p0 rfl rfl fun x487 _=>.g 3 rfl<|?_
 refine .cut (fun x:(List AD)=>(zht a1 a3 a2 x,[eP 0 0,(3,some (.fn 128 [] [])),eP 6 2,eK kD 9 x,eK kD 10 [a1.Lo,a1.Hi]],[(0,(.live 54 [(.int .i64 a2),(.int .i64 a3)])),(2,(.live 37 [(.bool a1.Lo.M.Neg),(slK kU a1.Lo.M.Mag),(.int .i64 a1.Lo.E),(.bool a1.Hi.M.Neg),(slK kU a1.Hi.M.Mag),(.int .i64 a1.Hi.E)]))])) ?_ ?_
 ·rintro y488
  dsimp only [zht]
  refine .g 8 rfl<|.p0 rfl rfl fun x489 _=>.g 3 rfl<|?_
  refine .cut (fun x:(List AD)=>(zfc y488 a3 a2 x,[eP 0 0,(3,some (.fn 128 [] [])),eK kD 9 y488,eK kD 10 x],[(0,(.live 54 [(.int .i64 a2),(.int .i64 a3)]))])) ?_ ?_
  ·rintro y490
   dsimp only [zfc]
   refine .g 10 rfl<|.ln rfl rfl<|.g 3 rfl<|?_
   refine .cut (fun x:Int × (List AD)=>(znQ x.1 x.2,[(11,some (grA kD 1 x.2))],[(0,(.live 54 [(.int .i64 x.1),(.int .i64 a3)])),(1,(grV kD 26 x.2))])) ?_ ?_
   ·rintro ⟨y731,y732⟩
    dsimp only [znQ]
    refine .g 8 rfl<|?_
    refine .weak ?_ (fun a w h=>Conc.gr_still kD h 8 1 26 y732 rfl rfl)
    exact .fi rfl rfl
   ·intro h381
    refine .g 1 rfl<|?_
    refine .weak ?_ (fun a w h=>Conc.gr_nil kD h 11 1 26 rfl)
    refine .lo (fun n (x:Int × Int × (List AD))=>zaE y488 y490 a3 n x.1 x.2.1 x.2.2) (fun x=>([eP 0 0,(3,some (.fn 128 [] [])),eK kD 10 y490,(11,some (grA kD 1 x.2.2)),eK kD 42 y488,eI 43 (y488.length:Int),eI 44 x.1],[(0,(.live 54 [(.int .i64 x.2.1),(.int .i64 a3)])),(1,(grV kD 26 x.2.2))])) (0,a2,[]) rfl (fun hE=>jn (m:=1) [(0,0),(1,1)] hE (.p rfl rfl<|.g rfl (zU _ .nil .nil)<|.l rfl<|.g rfl (zC (K:=kD) (by rfl) [])<|.l rfl<|.i rfl<|.i rfl<|.nil) (.v rfl (.i<|.i<|.nil)<|.cons (.refl _) (zE (K:=kD) 26 [])<|.nil) rfl) ?_
    rintro n4 ⟨y892,y893,y894⟩
    try dsimp only
    rw [zaE]
    refine .g 6 rfl<|?_
    refine .cd rfl (fun _ _=>?_) fun _ _=>?_
    ·refine .g 3 rfl<|?_
     refine .cut (fun x:Int × (List AD)=>(zkf (fun z0 z1 z2=>zaE y488 y490 a3 n4 z0 z1 z2) y892 x.1 x.2,[eP 0 0,(3,some (.fn 128 [] [])),eK kD 10 y490,(11,some (grA kD 1 x.2)),eK kD 42 y488,eI 43 (y488.length:Int),eI 44 y892],[(0,(.live 54 [(.int .i64 x.1),(.int .i64 a3)])),(1,(grV kD 26 x.2))])) ?_ ?_
     ·rintro ⟨y933,y934⟩
      dsimp only [zkf]
      refine .g 5 rfl<|.ao ((i64.wrap (y892+1)),y933,y934) rfl fun hE=>jn (m:=1) [(0,0),(1,1)] hE (.p rfl rfl<|.g rfl (zU _ .nil .nil)<|.l rfl<|.g rfl (zC (K:=kD) (by rfl) y934)<|.l rfl<|.i rfl<|.i rfl<|.nil) (.v rfl (.i<|.i<|.nil)<|.cons (.refl _) (zE (K:=kD) 26 y934)<|.nil) rfl
     ·intro h693
      refine .g 3 rfl<|.ix rfl rfl<|.g 8 rfl<|.ln rfl rfl<|.g 3 rfl<|?_
      refine .cut (fun x:Int × (List AD)=>(zkg (fun z0 z1 z2=>zaE y488 y490 a3 n4 z0 z1 z2) y892 x.1 x.2,[eP 0 0,(3,some (.fn 128 [] [])),eK kD 10 y490,(11,some (grA kD 1 x.2)),eK kD 42 y488,eI 43 (y488.length:Int),eI 44 y892],[(0,(.live 54 [(.int .i64 x.1),(.int .i64 a3)])),(1,(grV kD 26 x.2))])) ?_ ?_
      ·rintro ⟨y953,y954⟩
       dsimp only [zkg]
       refine .g 1 rfl<|.jo (h693 (y953,y954)) rfl fun hE=>jn (m:=1) [(0,0),(1,1)] hE (.p rfl rfl<|.g rfl (zU _ .nil .nil)<|.l rfl<|.g rfl (zC (K:=kD) (by rfl) y954)<|.l rfl<|.i rfl<|.i rfl<|.nil) (.v rfl (.i<|.i<|.nil)<|.cons (.refl _) (zE (K:=kD) 26 y954)<|.nil) rfl
      ·intro h725
       refine .g 1 rfl<|?_
       refine .lo (fun n (x:Int × Int × (List AD))=>zbF y490 y488 y892 a3 (fun z0 z1 z2=>zaE y488 y490 a3 n4 z0 z1 z2) n x.1 x.2.1 x.2.2) (fun x=>([eP 0 0,(3,some (.fn 128 [] [])),eK kD 10 y490,(11,some (grA kD 1 x.2.2)),eP 13 2,eK kD 42 y488,eI 43 (y488.length:Int),eI 44 y892,eK kD 48 y490,eI 49 (y490.length:Int),eI 50 x.1],[(0,(.live 54 [(.int .i64 x.2.1),(.int .i64 a3)])),(1,(grV kD 26 x.2.2)),(2,(.live 26 [(.bool (((y488.getD y892.toNat zAD).M).Neg)),(slK kU (((y488.getD y892.toNat zAD).M).Mag)),(.int .i64 ((y488.getD y892.toNat zAD).E))]))])) (0,y893,y894) rfl (fun hE=>jn (m:=1) [(0,0),(1,1),(2,2)] hE (.p rfl rfl<|.g rfl (zU _ .nil .nil)<|.l rfl<|.g rfl (zC (K:=kD) (by rfl) y894)<|.p rfl rfl<|.l rfl<|.i rfl<|.i rfl<|.l rfl<|.i rfl<|.i rfl<|.nil) (.v rfl (.i<|.i<|.nil)<|.cons (.refl _) (zE (K:=kD) 26 y894)<|.v rfl (.b<|.l<|.i<|.nil)<|.nil) rfl) ?_
       rintro n7 ⟨y966,y967,y968⟩
       try dsimp only
       rw [zbF]
       refine .g 6 rfl<|?_
       refine .cd rfl (fun _ _=>?_) fun _ _=>?_
       ·refine .g 6 rfl<|.ix rfl rfl<|.g 11 rfl<|.p0 rfl rfl fun x971 _=>.g 2 rfl<|.c0 [0] [] [true] rfl rfl (fun _=>rfl) (fun _=>rfl) fun x972 _=>.st rfl (bs kD [(⟨x972.1.M,x972.1.E⟩:AD)] rfl rfl) rfl<|.guard fun h755=>.sv (.row 4 kD.sz 0 (((y968++[(⟨x972.1.M,x972.1.E⟩:AD)])).length)) [(4,(rwK kD 26 (y968++[(⟨x972.1.M,x972.1.E⟩:AD)]))),(1,.dead)] rfl (zax kD _ _ _ _ _ 1 4 y968 [(⟨x972.1.M,x972.1.E⟩:AD)] rfl underlying90 zii zij rfl rfl rfl rfl rfl rfl rfl h755) rfl<|.g 8 rfl<|?_
        refine .weak ?_ (fun a w h=>Conc.gr_row kD h 11 4 26 (y968++[(⟨x972.1.M,x972.1.E⟩:AD)]) rfl rfl (by first | omega | (simp only [List.length_append,List.length_cons,List.length_set]; omega) | simp))
        exact .ao ((i64.wrap (y966+1)),x972.2,(y968++[(⟨x972.1.M,x972.1.E⟩:AD)])) rfl fun hE=>jn (m:=1) [(0,0),(4,1),(2,2)] hE (.p rfl rfl<|.g rfl (zU _ .nil .nil)<|.l rfl<|.g rfl (zC (K:=kD) (by rfl) (y968++[(⟨x972.1.M,x972.1.E⟩:AD)]))<|.p rfl rfl<|.l rfl<|.i rfl<|.i rfl<|.l rfl<|.i rfl<|.i rfl<|.nil) (.v rfl (.i<|.i<|.nil)<|.cons (.refl _) (zE (K:=kD) 26 (y968++[(⟨x972.1.M,x972.1.E⟩:AD)]))<|.v rfl (.b<|.l<|.i<|.nil)<|.nil) rfl
       ·refine .g 4 rfl<|.jo (h725 (y967,y968)) rfl fun hE=>jn (m:=1) [(0,0),(1,1)] hE (.p rfl rfl<|.g rfl (zU _ .nil .nil)<|.l rfl<|.g rfl (zC (K:=kD) (by rfl) y968)<|.l rfl<|.i rfl<|.i rfl<|.nil) (.v rfl (.i<|.i<|.nil)<|.cons (.refl _) (zE (K:=kD) 26 y968)<|.nil) rfl
    ·refine .g 4 rfl<|.jo (h381 (y893,y894)) rfl fun hE=>jn (m:=1) [(0,0),(1,1)] hE (.g rfl (zC (K:=kD) (by rfl) y894)<|.nil) (.v rfl (.i<|.i<|.nil)<|.cons (.refl _) (zE (K:=kD) 26 y894)<|.nil) rfl
  ·intro h756
   refine .cd rfl (fun _ _=>?_) fun _ _=>?_
   ·refine .g 2 rfl<|.guard fun h759=>.sv (slK kD ([a1.Lo,a1.Hi].take 1)) [] rfl (zci kD _ _ _ _ _ _ 0 1 rfl underlying90 zlb rfl rfl rfl rfl rfl h759) rfl<|.g 2 rfl<|.jw (h756 ([a1.Lo,a1.Hi].take 1)) [(0,0)] rfl
   ·refine .g 1 rfl<|.jw (h756 [a1.Lo,a1.Hi]) [(0,0)] rfl
 ·intro h760
  refine .cd rfl (fun _ _=>?_) fun _ _=>?_
  ·refine .g 2 rfl<|.guard fun h763=>.sv (slK kD ([a0.Lo,a0.Hi].take 1)) [] rfl (zci kD _ _ _ _ _ _ 0 1 rfl underlying90 zlb rfl rfl rfl rfl rfl h763) rfl<|.g 2 rfl<|.jw (h760 ([a0.Lo,a0.Hi].take 1)) [(0,0),(2,2)] rfl
  ·refine .g 1 rfl<|.jw (h760 [a0.Lo,a0.Hi]) [(0,0),(2,2)] rfl
instance {a0} : L7 (zdN a0) fun ya yb yc yd ye yf yg=>([eP 2 0,eP 3 1,eK kD 13 ((a0.take a0.length).drop 1),eI 14 (((a0.take a0.length).drop 1).length:Int),eI 15 ya],[(0,(.live 26 [(.bool yb),(slK kU yc),(.int .i64 yd)])),(1,(.live 26 [(.bool ye),(slK kU yf),(.int .i64 yg)]))]):={}
instance zFF (a0:List AD):PC (zcv a0) prog 76 [(slK kD a0)] (fun r=>(.tup [(.agg (kD.enc r.1)),(.agg (kD.enc r.2))])):=pc func76 (by kernel_rfl) rfl fun E=>by
 unfold zcv
 exact wk
instance zFG (a0:AI) (a1:AI) (a2:Int) (a3:Int):CC (ZB a0 a1 a2 a3) prog 65 [(.ptr 0 0),(.agg (kI.enc a0)),(.agg (kI.enc a1))] [(.live 54 [(.int .i64 a2),(.int .i64 a3)])] (fun r=>(.agg (kI.enc r.1))) (fun r=>[(.live 54 [(.int .i64 r.2),(.int .i64 a3)])]):=cc func65 (by kernel_rfl) rfl fun E=>by
 unfold ZB
 exact wk
instance zFH (a0:AI) (a1:Int) (a2:Int):CC (zbG a0 a1 a2) prog 20 [(.ptr 0 0),(.agg (kI.enc a0))] [(.live 54 [(.int .i64 a1),(.int .i64 a2)])] (fun r=>(.agg (kI.enc r.1))) (fun r=>[(.live 54 [(.int .i64 r.2),(.int .i64 a2)])]):=cc func20 (by kernel_rfl) rfl fun E=>by
 unfold zbG
 exact wk
instance zFI (a0:AI) (a1:AI) (a2:Int) (a3:Int):CC (zbH a0 a1 a2 a3) prog 67 [(.ptr 0 0),(.agg (kI.enc a0)),(.agg (kI.enc a1))] [(.live 54 [(.int .i64 a2),(.int .i64 a3)])] (fun r=>(.agg (kI.enc r.1))) (fun r=>[(.live 54 [(.int .i64 r.2),(.int .i64 a3)])]):=cc func67 (by kernel_rfl) rfl fun E=>by
 unfold zbH
 exact wk
instance zFJ (a0:Int) (a1:Int):CC (Qp a0 a1) prog 28 [(.ptr 0 0)] [(.live 54 [(.int .i64 a0),(.int .i64 a1)])] (fun r=>(.int .i64 r)) (fun r=>[(.live 54 [(.int .i64 a0),(.int .i64 a1)])]):=cc func28 (by kernel_rfl) rfl fun E=>by
 unfold Qp
 exact wk
instance zFK (a0:Int) (a1:Int) (a2:Int):CC (zdO a0 a1 a2) prog 178 [(.ptr 0 0)] [(.live 175 [(.ptr 1 0),(.int .i64 a0)]),(.live 54 [(.int .i64 a1),(.int .i64 a2)])] (fun r=>(.int .i64 r)) (fun r=>[(.live 175 [(.ptr 1 0),(.int .i64 a0)]),(.live 54 [(.int .i64 a1),(.int .i64 a2)])]):=cc func178 (by kernel_rfl) rfl fun E=>by
 unfold zdO
 exact wk
instance zFL (a0:Int) (a1:Int):CC (ZT a0 a1) prog 233 [(.ptr 0 0)] [(.live 54 [(.int .i64 a0),(.int .i64 a1)])] (fun r=>(.int .i64 r)) (fun r=>[(.live 54 [(.int .i64 a0),(.int .i64 a1)])]):=cc func233 (by kernel_rfl) rfl fun E=>by
 unfold ZT
 exact wk
instance {a1} : L1 (za8 a1) fun ya=>([eK kD 13 a1,eI 14 a1.length,eI 15 ya],[]):={}
instance zFM (a0:Int) (a1:List AD):PC (za9 a0 a1) prog 210 [(.int .i64 a0),(slK kD a1)] (fun r=>(.bool r)):=pc func210 (by kernel_rfl) rfl fun E=>by
 unfold za9
 exact wk
instance zFN (a0:AD):PC (zfd a0) prog 12 [(.agg (kD.enc a0))] (fun r=>(.tup [(.int .i64 r.1),(.bool r.2)])):=pc func12 (by kernel_rfl) rfl fun E=>by
 unfold zfd
 exact wk
instance zFO (a0:AD) (a1:Int):PC (zcw a0 a1) prog 84 [(.agg (kD.enc a0)),(.int .i64 a1)] (fun r=>(.tup [(.agg (kD.enc r.1)),(.int .i64 r.2)])):=pc func84 (by kernel_rfl) rfl fun E=>by
 unfold zcw
 exact wk
instance zFP (a0:AI) (a1:Int) (a2:Int) (a3:Int):CC (ZC a0 a1 a2 a3) prog 25 [(.ptr 0 0),(.agg (kI.enc a0)),(.int .i64 a1)] [(.live 54 [(.int .i64 a2),(.int .i64 a3)])] (fun r=>(.agg (kI.enc r.1))) (fun r=>[(.live 54 [(.int .i64 r.2),(.int .i64 a3)])]):=cc func25 (by kernel_rfl) rfl fun E=>by
 unfold ZC
 exact wk
instance zFQ (a0:AI) (a1:AD):PC (zdP a0 a1) prog 27 [(.agg (kI.enc a0)),(.agg (kD.enc a1))] (fun r=>(.bool r)):=pc func27 (by kernel_rfl) rfl fun E=>by
 unfold zdP
 exact wk
instance zFR (a0:Bool) (a1:Int) (a2:Int):CC (zhx a0 a1 a2) prog 73 [(.bool a0),(.ptr 0 0)] [(.live 29 [(.ptr 1 0)]),(.live 54 [(.int .i64 a1),(.int .i64 a2)])] (fun r=>(.fn 74 [] [(.ptr 0 0),(.ptr 2 0)])) (fun r=>[(.live 29 [(.ptr 1 0)]),(.live 54 [(.int .i64 a1),(.int .i64 a2)]),(.live 4 [(.bool r)])]):=cc func73 (by kernel_rfl) rfl fun E=>by
 unfold zhx
 exact wk
instance zFS (a0:Int) (a1:Int) (a2:Int):PC (zhy a0 a1 a2) prog 240 [(.int .u32 a0),(.int .u32 a1),(.int .u32 a2)] (fun r=>(.tup [(.int .u32 r.1),(.int .u32 r.2)])):=pc func240 (by kernel_rfl) rfl fun E=>by
 unfold zhy
 exact wk
instance zFT (a0:List Int) (a1:Int):PC (zhz a0 a1) prog 204 [(slK kU a0),(.int .u32 a1)] (fun r=>(.tup [(slK kU r.1),(slK kU r.2.1),(.bool r.2.2)])):=pc func204 (by kernel_rfl) rfl fun E=>by
 unfold zhz
 refine .g 2 rfl<|.st rfl (as0 rfl) rfl<|.st rfl (as0 rfl) rfl<|.g 6 rfl<|.ln rfl rfl<|.guard fun h1=>.sv (.row 0 (kInt .u32).sz 0 (((List.replicate a0.length (kInt .u32).z)).length)) [(0,(rwK kU 134 (List.replicate a0.length (kInt .u32).z)))] rfl (Q4 kU _ _ _ _ _ 0 _ _ _ rfl underlying22 q9 Zd (by decide) rfl rfl rfl rfl rfl h1) rfl<|.g 12 rfl<|.ln rfl rfl<|.g 3 rfl<|?_
 refine .cut (fun x:Int × (List Int)=>(zki x.1 x.2,[(4,some (.row 0 (kInt .u32).sz 0 x.2.length)),eW 7 x.1],[(0,(rwK kU 134 x.2))])) ?_ ?_
 ·rintro ⟨y41,y42⟩
  dsimp only [zki]
  refine .g 2 rfl<|?_
  refine .weak ?_ (fun a w h=>Conc.freezeK kU h 4 0 0 y42.length 134 y42 rfl rfl (by omega))
  refine .weak ?_ (fun a w h=>ZO h)
  refine .g 2 rfl<|.p0 rfl rfl fun x43 _=>.g 2 rfl<|.p0 rfl rfl fun x44 _=>.g 6 rfl<|.fi rfl rfl
 ·intro h28
  refine .g 1 rfl<|?_
  refine .lp (fun n (x:Int × Int × (List Int))=>zdQ a0 a1 n x.1 x.2.1 x.2.2) (fun x=>([eL 0 a0,eW 1 a1,(4,some (.row 0 (kInt .u32).sz 0 x.2.2.length)),eW 7 x.1,eI 14 (a0.length:Int),eI 15 x.2.1],[(0,(rwK kU 134 x.2.2))])) (0,0,(List.replicate a0.length (kInt .u32).z)) [(0,0)] rfl ?_
  rintro n2 ⟨y52,y53,y54⟩
  try dsimp only
  rw [zdQ]
  refine .g 6 rfl<|?_
  refine .cd rfl (fun _ _=>?_) fun _ _=>?_
  ·refine .g 13 rfl<|.ln rfl rfl<|.g 12 rfl<|.ix rfl rfl<|.g 2 rfl<|.p0 rfl rfl fun x56 _=>.g 3 rfl<|.guard fun h52=>?_
   obtain ⟨h521,h522⟩:=h52
   refine .sv (.rptr 0 (kInt .u32).sz ((i64.wrap ((i64.wrap ((a0.length:Int)-1))-y53)).toNat) 0) [] rfl (qc (qb _ _ _ _ _ 0 0 y54.length _ (i64.wrap ((i64.wrap ((a0.length:Int)-1))-y53)) rfl underlying22 zQ rfl rfl rfl rfl h521 (by omega)) (Nat.zero_add _)) rfl<|.sm [(0,(rwK kU 134 (y54.set ((i64.wrap ((i64.wrap ((a0.length:Int)-1))-y53)).toNat) x56.1)))] rfl (Zq kU _ _ _ 0 ((i64.wrap ((i64.wrap ((a0.length:Int)-1))-y53)).toNat) _ _ x56.1 _ rfl rfl rfl qx rfl rfl rfl rfl rfl rfl (by first | omega | (simp only [List.length_set]; omega))) rfl<|?_
   refine .weak ?_ (fun a w h=>Conc.relen h 4 (((y54.set ((i64.wrap ((i64.wrap ((a0.length:Int)-1))-y53)).toNat) x56.1)).length) rfl List.length_set.symm)
   refine .g 8 rfl<|.ag (x56.2,(i64.wrap (y53+1)),(y54.set ((i64.wrap ((i64.wrap ((a0.length:Int)-1))-y53)).toNat) x56.1)) [(0,0)] rfl
  ·refine .g 4 rfl<|.jw (h28 (y52,y54)) [(0,0)] rfl
instance zFU (a0:Int):PC (zhA a0) prog 241 [(.int .u32 a0)] (fun r=>(.int .i64 r)):=pc func241 (by kernel_rfl) rfl fun E=>by
 unfold zhA
 exact wk
instance zFV (a0:Nat) (a1:Nat) (a2:List Int) (a3:Int) (a4:List Int):CC (zhB a0 a1 a2 a3 a4) prog 242 [(.row 0 (kInt .u32).sz a0 a1),(slK kU a2),(.int .u64 a3)] [(rwK kU 134 a4)] (fun r=>(.bool r.1)) (fun r=>[(rwK kU 134 r.2)]):=cc func242 (by kernel_rfl) rfl fun E=>by
 unfold zhB
 refine .g 19 rfl<|.ln rfl rfl<|.g 3 rfl<|?_
 refine .cut (fun x:Int × Int × (List Int)=>(zkj a2 a1 a0 x.1 x.2.1 x.2.2,[(0,some (.row 0 (kInt .u32).sz a0 a1)),eL 1 a2,eX 7 x.1,eW 8 x.2.1],[(0,(rwK kU 134 x.2.2))])) ?_ ?_
 ·rintro ⟨y47,y48,y49⟩
  dsimp only [zkj]
  refine .g 5 rfl<|.ln rfl rfl<|.g 2 rfl<|.ln rfl rfl<|.guard fun h31=>?_
  obtain ⟨h311,h312,h313⟩:=h31
  refine .sv (.rptr 0 (kInt .u32).sz (a0+a2.length) 0) [] rfl (qc (qb _ _ _ _ _ 0 a0 a1 _ (a2.length:Int) rfl underlying22 zQ rfl rfl rfl rfl h311 (by omega)) rfl) rfl<|.sv (.int .u32 (y49.getD (a0+a2.length) (kInt .u32).z)) [] rfl (zaW kU _ _ 0 (a0+a2.length) 0 _ _ rfl qx rfl rfl rfl rfl (by first | omega | (simp only [List.length_set]; omega)) (by decide)) rfl<|.g 3 rfl<|.p0 rfl rfl fun x50 _=>.g 3 rfl<|.guard fun h33=>?_
  obtain ⟨h331,h332,h333⟩:=h33
  refine .sv (.rptr 0 (kInt .u32).sz (a0+a2.length) 0) [] rfl (qc (qb _ _ _ _ _ 0 a0 a1 _ (a2.length:Int) rfl underlying22 zQ rfl rfl rfl rfl h331 (by omega)) rfl) rfl<|.sm [(0,(rwK kU 134 (y49.set (a0+a2.length) x50.1)))] rfl (Zq kU _ _ _ 0 (a0+a2.length) _ _ x50.1 _ rfl rfl rfl qx rfl rfl rfl rfl rfl rfl (by first | omega | (simp only [List.length_set]; omega))) rfl<|.g 11 rfl<|.fi rfl rfl
 ·intro h34
  refine .g 1 rfl<|?_
  refine .lp (fun n (x:Int × Int × Int × (List Int))=>zdR a2 a1 a0 a3 n x.1 x.2.1 x.2.2.1 x.2.2.2) (fun x=>([(0,some (.row 0 (kInt .u32).sz a0 a1)),eL 1 a2,eX 2 a3,eX 7 x.1,eW 8 x.2.1,eL 12 a2,eI 13 (a2.length:Int),eI 14 x.2.2.1],[(0,(rwK kU 134 x.2.2.2))])) (0,0,0,a4) [(0,0)] rfl ?_
  rintro n2 ⟨y59,y60,y61,y62⟩
  try dsimp only
  rw [zdR]
  refine .g 6 rfl<|?_
  refine .cd rfl (fun _ _=>?_) fun _ _=>?_
  ·refine .g 7 rfl<|.ix rfl rfl<|.g 28 rfl<|.guard fun h62=>?_
   obtain ⟨h621,h622,h623⟩:=h62
   refine .sv (.rptr 0 (kInt .u32).sz (a0+y61.toNat) 0) [] rfl (qc (qb _ _ _ _ _ 0 a0 a1 _ y61 rfl underlying22 zQ rfl rfl rfl rfl h621 (by omega)) rfl) rfl<|.sv (.int .u32 (y62.getD (a0+y61.toNat) (kInt .u32).z)) [] rfl (zaW kU _ _ 0 (a0+y61.toNat) 0 _ _ rfl qx rfl rfl rfl rfl (by first | omega | (simp only [List.length_set]; omega)) (by decide)) rfl<|.g 3 rfl<|.p0 rfl rfl fun x64 _=>.g 3 rfl<|.guard fun h64=>?_
   obtain ⟨h641,h642,h643⟩:=h64
   refine .sv (.rptr 0 (kInt .u32).sz (a0+y61.toNat) 0) [] rfl (qc (qb _ _ _ _ _ 0 a0 a1 _ y61 rfl underlying22 zQ rfl rfl rfl rfl h641 (by omega)) rfl) rfl<|.sm [(0,(rwK kU 134 (y62.set (a0+y61.toNat) x64.1)))] rfl (Zq kU _ _ _ 0 (a0+y61.toNat) _ _ x64.1 _ rfl rfl rfl qx rfl rfl rfl rfl rfl rfl (by first | omega | (simp only [List.length_set]; omega))) rfl<|.g 8 rfl<|.ag ((shrI .u64 (u64.wrap ((u64.wrap ((u64.wrap (a2.getD y61.toNat (kInt .u32).z))*a3))+y59)) 32),x64.2,(i64.wrap (y61+1)),(y62.set (a0+y61.toNat) x64.1)) [(0,0)] rfl
  ·refine .g 4 rfl<|.jw (h34 (y59,y60,y62)) [(0,0)] rfl
instance zFW (a0:Nat) (a1:Nat) (a2:List Int) (a3:List Int):CC (zhC a0 a1 a2 a3) prog 243 [(.row 0 (kInt .u32).sz a0 a1),(slK kU a2)] [(rwK kU 134 a3)] (fun r=>(.tup [])) (fun r=>[(rwK kU 134 r)]):=cc func243 (by kernel_rfl) rfl fun E=>by
 unfold zhC
 refine .g 9 rfl<|.ln rfl rfl<|.g 3 rfl<|?_
 refine .cut (fun x:Int × (List Int)=>(zkk a2 a1 a0 x.1 x.2,[(0,some (.row 0 (kInt .u32).sz a0 a1)),eL 1 a2,eW 4 x.1],[(0,(rwK kU 134 x.2))])) ?_ ?_
 ·rintro ⟨y39,y40⟩
  dsimp only [zkk]
  refine .g 4 rfl<|.ln rfl rfl<|.guard fun h31=>?_
  obtain ⟨h311,h312,h313⟩:=h31
  refine .sv (.rptr 0 (kInt .u32).sz (a0+a2.length) 0) [] rfl (qc (qb _ _ _ _ _ 0 a0 a1 _ (a2.length:Int) rfl underlying22 zQ rfl rfl rfl rfl h311 (by omega)) rfl) rfl<|.sv (.int .u32 (y40.getD (a0+a2.length) (kInt .u32).z)) [] rfl (zaW kU _ _ 0 (a0+a2.length) 0 _ _ rfl qx rfl rfl rfl rfl (by first | omega | (simp only [List.length_set]; omega)) (by decide)) rfl<|.g 2 rfl<|.guard fun h32=>?_
  obtain ⟨h321,h322,h323⟩:=h32
  refine .sv (.rptr 0 (kInt .u32).sz (a0+a2.length) 0) [] rfl (qc (qb _ _ _ _ _ 0 a0 a1 _ (a2.length:Int) rfl underlying22 zQ rfl rfl rfl rfl h321 (by omega)) rfl) rfl<|.sm [(0,(rwK kU 134 (y40.set (a0+a2.length) (u32.wrap ((y40.getD (a0+a2.length) (kInt .u32).z)+y39)))))] rfl (Zq kU _ _ _ 0 (a0+a2.length) _ _ (u32.wrap ((y40.getD (a0+a2.length) (kInt .u32).z)+y39)) _ rfl rfl rfl qx rfl rfl rfl rfl rfl rfl (by first | omega | (simp only [List.length_set]; omega))) rfl<|.g 1 rfl<|.fi rfl rfl
 ·intro h33
  refine .g 1 rfl<|?_
  refine .lp (fun n (x:Int × Int × (List Int))=>zdS a2 a1 a0 n x.1 x.2.1 x.2.2) (fun x=>([(0,some (.row 0 (kInt .u32).sz a0 a1)),eL 1 a2,eW 4 x.1,eL 7 a2,eI 8 (a2.length:Int),eI 9 x.2.1],[(0,(rwK kU 134 x.2.2))])) (0,0,a3) [(0,0)] rfl ?_
  rintro n2 ⟨y48,y49,y50⟩
  try dsimp only
  rw [zdS]
  refine .g 6 rfl<|?_
  refine .cd rfl (fun _ _=>?_) fun _ _=>?_
  ·refine .g 7 rfl<|.ix rfl rfl<|.g 10 rfl<|.guard fun h61=>?_
   obtain ⟨h611,h612,h613⟩:=h61
   refine .sv (.rptr 0 (kInt .u32).sz (a0+y49.toNat) 0) [] rfl (qc (qb _ _ _ _ _ 0 a0 a1 _ y49 rfl underlying22 zQ rfl rfl rfl rfl h611 (by omega)) rfl) rfl<|.sv (.int .u32 (y50.getD (a0+y49.toNat) (kInt .u32).z)) [] rfl (zaW kU _ _ 0 (a0+y49.toNat) 0 _ _ rfl qx rfl rfl rfl rfl (by first | omega | (simp only [List.length_set]; omega)) (by decide)) rfl<|.g 2 rfl<|.p0 rfl rfl fun x52 _=>.g 3 rfl<|.guard fun h63=>?_
   obtain ⟨h631,h632,h633⟩:=h63
   refine .sv (.rptr 0 (kInt .u32).sz (a0+y49.toNat) 0) [] rfl (qc (qb _ _ _ _ _ 0 a0 a1 _ y49 rfl underlying22 zQ rfl rfl rfl rfl h631 (by omega)) rfl) rfl<|.sm [(0,(rwK kU 134 (y50.set (a0+y49.toNat) x52.1)))] rfl (Zq kU _ _ _ 0 (a0+y49.toNat) _ _ x52.1 _ rfl rfl rfl qx rfl rfl rfl rfl rfl rfl (by first | omega | (simp only [List.length_set]; omega))) rfl<|.g 8 rfl<|.ag (x52.2,(i64.wrap (y49+1)),(y50.set (a0+y49.toNat) x52.1)) [(0,0)] rfl
  ·refine .g 4 rfl<|.jw (h33 (y48,y50)) [(0,0)] rfl
instance zFX (a0:List Int) (a1:List Int):PC (zhD a0 a1) prog 205 [(slK kU a0),(slK kU a1)] (fun r=>(.tup [(slK kU r.1),(slK kU r.2.1),(.bool r.2.2)])):=pc func205 (by kernel_rfl) rfl fun E=>by
 unfold zhD
 refine .g 2 rfl<|.st rfl (as0 rfl) rfl<|.st rfl (as0 rfl) rfl<|.g 7 rfl<|.ln rfl rfl<|.g 1 rfl<|.ix rfl rfl<|.g 1 rfl<|.p0 rfl rfl fun x272 _=>.g 7 rfl<|.p0 rfl rfl fun x273 _=>.g 9 rfl<|.ln rfl rfl<|.g 6 rfl<|?_
 refine .ln rfl rfl<|.g 1 rfl<|.guard fun h4=>.sv (.row 0 (kInt .u32).sz 0 (((List.replicate ((i64.wrap ((a0.length:Int)+1)).toNat) (kInt .u32).z)).length)) [(0,(rwK kU 134 (List.replicate ((i64.wrap ((a0.length:Int)+1)).toNat) (kInt .u32).z)))] rfl (Q4 kU _ _ _ _ _ 0 _ _ _ rfl underlying22 q9 Zd (by decide) rfl rfl rfl rfl rfl h4) rfl<|.g 7 rfl<|.p0 rfl rfl fun x274 _=>.g 11 rfl<|.sv (.int .i64 ((copyN (List.replicate ((i64.wrap ((a0.length:Int)+1)).toNat) (kInt .u32).z) x274.1:Nat):Int)) [(0,(rwK kU 134 (Zz (List.replicate ((i64.wrap ((a0.length:Int)+1)).toNat) (kInt .u32).z) x274.1)))] rfl (zxl kU _ _ _ _ _ 0 (List.replicate ((i64.wrap ((a0.length:Int)+1)).toNat) (kInt .u32).z) x274.1 rfl underlying22 zQ rfl rfl rfl rfl rfl) rfl<|?_
 refine .weak ?_ (fun a w h=>Conc.relen h 9 (((Zz (List.replicate ((i64.wrap ((a0.length:Int)+1)).toNat) (kInt .u32).z) x274.1)).length) rfl (zrl _ _).symm)
 refine .g 5 rfl<|.ln rfl rfl<|.g 3 rfl<|.guard fun h6=>.sv (.row 1 (kInt .u32).sz 0 (((List.replicate ((i64.wrap ((i64.wrap ((a0.length:Int)-(x273.1.length:Int)))+1)).toNat) (kInt .u32).z)).length)) [(1,(rwK kU 134 (List.replicate ((i64.wrap ((i64.wrap ((a0.length:Int)-(x273.1.length:Int)))+1)).toNat) (kInt .u32).z)))] rfl (Q4 kU _ _ _ _ _ 1 _ _ _ rfl underlying22 q9 Zd (by decide) rfl rfl rfl rfl rfl h6) rfl<|.g 7 rfl<|.ln rfl rfl<|.g 5 rfl<|?_
 refine .cut (fun x:(List Int) × (List Int)=>(zkl x273 x272 x.1 x.2,[(4,some (.row 1 (kInt .u32).sz 0 x.1.length)),eI 7 x272,eI 8 (x273.1.length:Int),(9,some (.row 0 (kInt .u32).sz 0 x.2.length))],[(1,(rwK kU 134 x.1)),(0,(rwK kU 134 x.2))])) ?_ ?_
 ·rintro ⟨y407,y408⟩
  dsimp only [zkl]
  refine .g 2 rfl<|?_
  refine .weak ?_ (fun a w h=>Conc.freezeK kU h 4 1 0 y407.length 134 y407 rfl rfl (by omega))
  refine .weak ?_ (fun a w h=>ZO h)
  refine .weak ?_ (fun a w h=>Conc.freezeK kU h 9 0 0 y408.length 134 y408 rfl rfl (by omega))
  refine .weak ?_ (fun a w h=>ZO h)
  refine .g 2 rfl<|.p0 rfl rfl fun x409 _=>.g 2 rfl<|.guard fun h638=>.sv (slK kU (y408.take x273.1.length)) [] rfl (zci kU _ _ _ _ _ _ 0 (x273.1.length:Int) rfl underlying22 zQ rfl rfl rfl rfl rfl h638) rfl<|.g 1 rfl<|.p0 rfl rfl fun x410 _=>.g 3 rfl<|.dn (by kernel_rfl)<|.g 2 rfl<|.fi rfl rfl
 ·intro h640
  refine .g 1 rfl<|?_
  refine .lp (fun n (x:Int × (List Int) × (List Int))=>Qd x273 x272 n x.1 x.2.1 x.2.2) (fun x=>([eL 1 x273.1,(4,some (.row 1 (kInt .u32).sz 0 x.2.1.length)),eI 7 x272,eI 8 (x273.1.length:Int),(9,some (.row 0 (kInt .u32).sz 0 x.2.2.length)),eI 12 x.1],[(1,(rwK kU 134 x.2.1)),(0,(rwK kU 134 x.2.2))])) ((i64.wrap ((a0.length:Int)-(x273.1.length:Int))),(List.replicate ((i64.wrap ((i64.wrap ((a0.length:Int)-(x273.1.length:Int)))+1)).toNat) (kInt .u32).z),(Zz (List.replicate ((i64.wrap ((a0.length:Int)+1)).toNat) (kInt .u32).z) x274.1)) [(1,1),(0,0)] rfl ?_
  rintro n2 ⟨y498,y499,y500⟩
  try dsimp only
  rw [Qd]
  refine .g 7 rfl<|?_
  refine .cd rfl (fun _ _=>?_) fun _ _=>?_
  ·refine .g 3 rfl<|?_
   refine .cut (fun x:(List Int) × (List Int)=>(zkm (fun z0 z1 z2=>Qd x273 x272 n2 z0 z1 z2) y498 x.1 x.2,[eL 1 x273.1,(4,some (.row 1 (kInt .u32).sz 0 x.1.length)),eI 7 x272,eI 8 (x273.1.length:Int),(9,some (.row 0 (kInt .u32).sz 0 x.2.length)),eI 12 y498],[(1,(rwK kU 134 x.1)),(0,(rwK kU 134 x.2))])) ?_ ?_
   ·rintro ⟨y521,y522⟩
    dsimp only [zkm]
    refine .g 6 rfl<|.ag ((i64.wrap (y498-1)),y521,y522) [(1,1),(0,0)] rfl
   ·intro h1167
    refine .g 8 rfl<|.guard fun h1168=>?_
    obtain ⟨h11681,h11682⟩:=h1168
    refine .sv (.rptr 0 (kInt .u32).sz ((i64.wrap (y498+(x273.1.length:Int))).toNat) 0) [] rfl (qc (qb _ _ _ _ _ 0 0 y500.length _ (i64.wrap (y498+(x273.1.length:Int))) rfl underlying22 zQ rfl rfl rfl rfl h11681 (by omega)) (Nat.zero_add _)) rfl<|.sv (.int .u32 (y500.getD ((i64.wrap (y498+(x273.1.length:Int))).toNat) (kInt .u32).z)) [] rfl (zaW kU _ _ 0 ((i64.wrap (y498+(x273.1.length:Int))).toNat) 0 _ _ rfl qx rfl rfl rfl rfl (by first | omega | (simp only [List.length_set]; omega)) (by decide)) rfl<|.g 7 rfl<|.guard fun h1169=>?_
    obtain ⟨h11691,h11692⟩:=h1169
    refine .sv (.rptr 0 (kInt .u32).sz ((i64.wrap ((i64.wrap (y498+(x273.1.length:Int)))-1)).toNat) 0) [] rfl (qc (qb _ _ _ _ _ 0 0 y500.length _ (i64.wrap ((i64.wrap (y498+(x273.1.length:Int)))-1)) rfl underlying22 zQ rfl rfl rfl rfl h11691 (by omega)) (Nat.zero_add _)) rfl<|.sv (.int .u32 (y500.getD ((i64.wrap ((i64.wrap (y498+(x273.1.length:Int)))-1)).toNat) (kInt .u32).z)) [] rfl (zaW kU _ _ 0 ((i64.wrap ((i64.wrap (y498+(x273.1.length:Int)))-1)).toNat) 0 _ _ rfl qx rfl rfl rfl rfl (by first | omega | (simp only [List.length_set]; omega)) (by decide)) rfl<|.g 3 rfl<|.dn (by kernel_rfl)<|.g 7 rfl<|.ix rfl rfl<|.g 2 rfl<|.guard fun h1171=>.st rfl (zjv _ _ _ _ _ _ _ rfl rfl rfl rfl rfl h1171) rfl<|.g 4 rfl<|.ix rfl rfl<|.g 2 rfl<|.guard fun h1173=>.st rfl (zjw _ _ _ _ _ _ _ rfl rfl rfl rfl rfl h1173) rfl<|?_
    refine .g 2 rfl<|.dn (by kernel_rfl)<|.g 5 rfl<|?_
    refine .cut (fun x:Int=>(zcx y498 x273 y500 y499 (fun z0 z1 z2=>Qd x273 x272 n2 z0 z1 z2) x,[eL 1 x273.1,(4,some (.row 1 (kInt .u32).sz 0 y499.length)),eI 7 x272,eI 8 (x273.1.length:Int),(9,some (.row 0 (kInt .u32).sz 0 y500.length)),eI 12 y498,eX 14 x],[(1,(rwK kU 134 y499)),(0,(rwK kU 134 y500))])) ?_ ?_
    ·rintro y530
     dsimp only [zcx]
     refine .g 10 rfl<|.guard fun h1216=>.sv (.row 0 (kInt .u32).sz (0+y498.toNat) ((i64.wrap ((i64.wrap (y498+(x273.1.length:Int)))+1)).toNat-y498.toNat)) [] rfl (zqZ _ _ _ _ _ _ 0 0 y500.length y498 (i64.wrap ((i64.wrap (y498+(x273.1.length:Int)))+1)) rfl underlying22 zQ rfl rfl rfl rfl rfl h1216.1 h1216.2.1 h1216.2.2) rfl<|.g 2 rfl<|.c0 [0] [] [true] rfl rfl (fun _=>rfl) (fun _=>rfl) fun x531 _=>.guard fun h1218=>?_
     refine .weak ?_ (fun a w h=>Conc.relen h 9 x531.2.length rfl h1218.symm)
     refine .g 2 rfl<|?_
     refine .cut (fun x:Int × (List Int)=>(zfe y498 y499 (fun z0 z1 z2=>Qd x273 x272 n2 z0 z1 z2) x.1 x.2,[eL 1 x273.1,(4,some (.row 1 (kInt .u32).sz 0 y499.length)),eI 7 x272,eI 8 (x273.1.length:Int),(9,some (.row 0 (kInt .u32).sz 0 x.2.length)),eI 12 y498,eX 14 x.1],[(1,(rwK kU 134 y499)),(0,(rwK kU 134 x.2))])) ?_ ?_
     ·rintro ⟨y533,y534⟩
      dsimp only [zfe]
      refine .g 6 rfl<|.guard fun h1224=>?_
      obtain ⟨h12241,h12242⟩:=h1224
      refine .sv (.rptr 1 (kInt .u32).sz y498.toNat 0) [] rfl (qc (qb _ _ _ _ _ 1 0 y499.length _ y498 rfl underlying22 zQ rfl rfl rfl rfl h12241 (by omega)) (Nat.zero_add _)) rfl<|.sm [(1,(rwK kU 134 (y499.set y498.toNat (u32.wrap y533))))] rfl (Zq kU _ _ _ 1 y498.toNat _ _ (u32.wrap y533) _ rfl rfl rfl qx rfl rfl rfl rfl rfl rfl (by first | omega | (simp only [List.length_set]; omega))) rfl<|?_
      refine .weak ?_ (fun a w h=>Conc.relen h 4 (((y499.set y498.toNat (u32.wrap y533))).length) rfl List.length_set.symm)
      refine .g 3 rfl<|.jw (h1167 ((y499.set y498.toNat (u32.wrap y533)),y534)) [(1,1),(0,0)] rfl
     ·intro h1225
      refine .cd rfl (fun _ _=>?_) fun _ _=>?_
      ·refine .g 14 rfl<|.guard fun h1228=>.sv (.row 0 (kInt .u32).sz (0+y498.toNat) ((i64.wrap ((i64.wrap (y498+(x273.1.length:Int)))+1)).toNat-y498.toNat)) [] rfl (zqZ _ _ _ _ _ _ 0 0 x531.2.length y498 (i64.wrap ((i64.wrap (y498+(x273.1.length:Int)))+1)) rfl underlying22 zQ rfl rfl rfl rfl rfl h1228.1 h1228.2.1 h1228.2.2) rfl<|.g 1 rfl<|.c0 [0] [] [true] rfl rfl (fun _=>rfl) (fun _=>rfl) fun x535 _=>.guard fun h1230=>?_
       refine .weak ?_ (fun a w h=>Conc.relen h 9 x535.length rfl h1230.symm)
       refine .g 1 rfl<|.jw (h1225 ((u64.wrap (y530-1)),x535)) [(1,1),(0,0)] rfl
      ·refine .g 1 rfl<|.jw (h1225 (y530,x531.2)) [(1,1),(0,0)] rfl
    ·intro h1231
     refine .g 1 rfl<|?_
     refine .lp (fun n (x:Int × Int)=>zbI x273 y498 y500 y499 (fun z0 z1 z2=>Qd x273 x272 n2 z0 z1 z2) n x.1 x.2) (fun x=>([eL 1 x273.1,(4,some (.row 1 (kInt .u32).sz 0 y499.length)),eI 7 x272,eI 8 (x273.1.length:Int),(9,some (.row 0 (kInt .u32).sz 0 y500.length)),eI 12 y498,eX 14 x.1,eX 15 x.2],[(1,(rwK kU 134 y499)),(0,(rwK kU 134 y500))])) ((u64.wrap ((orI .u64 (shlI .u64 (u64.wrap (y500.getD ((i64.wrap (y498+(x273.1.length:Int))).toNat) (kInt .u32).z)) 32) (u64.wrap (y500.getD ((i64.wrap ((i64.wrap (y498+(x273.1.length:Int)))-1)).toNat) (kInt .u32).z))).tdiv (u64.wrap (x273.1.getD ((i64.wrap ((x273.1.length:Int)-1)).toNat) (kInt .u32).z)))),((orI .u64 (shlI .u64 (u64.wrap (y500.getD ((i64.wrap (y498+(x273.1.length:Int))).toNat) (kInt .u32).z)) 32) (u64.wrap (y500.getD ((i64.wrap ((i64.wrap (y498+(x273.1.length:Int)))-1)).toNat) (kInt .u32).z))).tmod (u64.wrap (x273.1.getD ((i64.wrap ((x273.1.length:Int)-1)).toNat) (kInt .u32).z)))) [(1,1),(0,0)] rfl ?_
     rintro n6 ⟨y540,y541⟩
     try dsimp only
     rw [zbI]
     refine .g 2 rfl<|?_
     refine .cut (fun x:Bool=>(zdT x273 y541 y498 y500 y499 (fun z0 z1 z2=>Qd x273 x272 n2 z0 z1 z2) y540 (fun z0 z1=>zbI x273 y498 y500 y499 (fun z0 z1 z2=>Qd x273 x272 n2 z0 z1 z2) n6 z0 z1) x,[eL 1 x273.1,(4,some (.row 1 (kInt .u32).sz 0 y499.length)),eI 7 x272,eI 8 (x273.1.length:Int),(9,some (.row 0 (kInt .u32).sz 0 y500.length)),eI 12 y498,eX 14 y540,eX 15 y541,eB 114 x],[(1,(rwK kU 134 y499)),(0,(rwK kU 134 y500))])) ?_ ?_
     ·rintro y542
      dsimp only [zdT]
      refine .g 1 rfl<|?_
      refine .cd rfl (fun _ _=>?_) fun _ _=>?_
      ·refine .g 16 rfl<|.ix rfl rfl<|.g 12 rfl<|?_
       refine .cd rfl (fun _ _=>?_) fun _ _=>?_
       ·refine .g 4 rfl<|.jw (h1231 (u64.wrap (y540-1))) [(1,1),(0,0)] rfl
       ·refine .g 2 rfl<|.ag ((u64.wrap (y540-1)),(u64.wrap (y541+(u64.wrap (x273.1.getD ((i64.wrap ((x273.1.length:Int)-1)).toNat) (kInt .u32).z))))) [(1,1),(0,0)] rfl
      ·refine .g 4 rfl<|.jw (h1231 y540) [(1,1),(0,0)] rfl
     ·intro h1271
      refine .g 4 rfl<|?_
      refine .gd 93 rfl (fun _=>?_) fun _=>?_
      ·refine .g 21 rfl<|.dn (by kernel_rfl)<|.jw (h1271 true) [(1,1),(0,0)] rfl
      ·refine .g 4 rfl<|.ix rfl rfl<|.g 10 rfl<|.guard fun h1274=>?_
       obtain ⟨h12741,h12742⟩:=h1274
       refine .sv (.rptr 0 (kInt .u32).sz ((i64.wrap ((i64.wrap (y498+(x273.1.length:Int)))-2)).toNat) 0) [] rfl (qc (qb _ _ _ _ _ 0 0 y500.length _ (i64.wrap ((i64.wrap (y498+(x273.1.length:Int)))-2)) rfl underlying22 zQ rfl rfl rfl rfl h12741 (by omega)) (Nat.zero_add _)) rfl<|.sv (.int .u32 (y500.getD ((i64.wrap ((i64.wrap (y498+(x273.1.length:Int)))-2)).toNat) (kInt .u32).z)) [] rfl (zaW kU _ _ 0 ((i64.wrap ((i64.wrap (y498+(x273.1.length:Int)))-2)).toNat) 0 _ _ rfl qx rfl rfl rfl rfl (by first | omega | (simp only [List.length_set]; omega)) (by decide)) rfl<|.g 4 rfl<|.dn (by kernel_rfl)<|.jw (h1271 (decide ((u64.wrap (y540*(u64.wrap (x273.1.getD ((i64.wrap ((x273.1.length:Int)-2)).toNat) (kInt .u32).z))))>(orI .u64 (shlI .u64 y541 32) (u64.wrap (y500.getD ((i64.wrap ((i64.wrap (y498+(x273.1.length:Int)))-2)).toNat) (kInt .u32).z)))))) [(1,1),(0,0)] rfl
  ·refine .g 4 rfl<|.jw (h640 (y499,y500)) [(1,1),(0,0)] rfl
instance zFY (a0:List Int) (a1:List Int):PC (zdU a0 a1) prog 139 [(slK kU a0),(slK kU a1)] (fun r=>(.tup [(slK kU r.1),(slK kU r.2.1),(.bool r.2.2)])):=pc func139 (by kernel_rfl) rfl fun E=>by
 unfold zdU
 exact wk
instance zFZ (a0:AD) (a1:AD) (a2:Int) (a3:Bool):PC (zhF a0 a1 a2 a3) prog 75 [(.agg (kD.enc a0)),(.agg (kD.enc a1)),(.int .i64 a2),(.bool a3)] (fun r=>(.tup [(.agg (kD.enc r.1)),(.int .i64 r.2)])):=pc func75 (by kernel_rfl) rfl fun E=>by
 unfold zhF
 exact wk
instance zF0 (a0:AD) (a1:AD) (a2:Int) (a3:Int) (a4:Bool):CC (zkn a0 a1 a2 a3 a4) prog 74 [(.agg (kD.enc a0)),(.agg (kD.enc a1)),(.ptr 0 0),(.ptr 2 0)] [(.live 29 [(.ptr 1 0)]),(.live 54 [(.int .i64 a2),(.int .i64 a3)]),(.live 4 [(.bool a4)])] (fun r=>(.tup [(.agg (kD.enc r.1)),(.int .i64 r.2)])) (fun r=>[(.live 29 [(.ptr 1 0)]),(.live 54 [(.int .i64 a2),(.int .i64 a3)]),(.live 4 [(.bool a4)])]):=cc func74 (by kernel_rfl) rfl fun E=>by
 unfold zkn
 exact wk
instance zF1 (a0:AI) (a1:AI) (a2:Int) (a3:Int) (a4:Bool):CC (zcy a0 a1 a2 a3 a4) prog 77 [(.ptr 0 0),(.agg (kI.enc a0)),(.agg (kI.enc a1)),(.fn 74 [] [(.ptr 1 0),(.ptr 2 0)])] [(.live 54 [(.int .i64 a2),(.int .i64 a3)]),(.live 29 [(.ptr 0 0)]),(.live 4 [(.bool a4)])] (fun r=>(slK kD r.1)) (fun r=>[(.live 54 [(.int .i64 r.2),(.int .i64 a3)]),(.live 29 [(.ptr 0 0)]),(.live 4 [(.bool a4)])]):=cc func77 (by kernel_rfl) rfl fun E=>by
 unfold zcy
 refine .g 13 rfl<|.st rfl (bs kD [a0.Lo,a0.Hi] rfl rfl) rfl<|.g 4 rfl<|.st rfl (bs kD [a1.Lo,a1.Hi] rfl rfl) rfl<|.g 2 rfl<|.dn (by kernel_rfl)<|.g 8 rfl<|.p0 rfl rfl fun x487 _=>.g 3 rfl<|?_
 refine .cut (fun x:(List AD)=>(zff a1 a3 a4 a2 x,[eP 0 0,(3,some (.fn 74 [] [(.ptr 1 0),(.ptr 2 0)])),eP 6 4,eK kD 9 x,eK kD 10 [a1.Lo,a1.Hi]],[(0,(.live 54 [(.int .i64 a2),(.int .i64 a3)])),(1,(.live 29 [(.ptr 0 0)])),(2,(.live 4 [(.bool a4)])),(4,(.live 37 [(.bool a1.Lo.M.Neg),(slK kU a1.Lo.M.Mag),(.int .i64 a1.Lo.E),(.bool a1.Hi.M.Neg),(slK kU a1.Hi.M.Mag),(.int .i64 a1.Hi.E)]))])) ?_ ?_
 ·rintro y488
  dsimp only [zff]
  refine .g 8 rfl<|.p0 rfl rfl fun x489 _=>.g 3 rfl<|?_
  refine .cut (fun x:(List AD)=>(zdV y488 a3 a4 a2 x,[eP 0 0,(3,some (.fn 74 [] [(.ptr 1 0),(.ptr 2 0)])),eK kD 9 y488,eK kD 10 x],[(0,(.live 54 [(.int .i64 a2),(.int .i64 a3)])),(1,(.live 29 [(.ptr 0 0)])),(2,(.live 4 [(.bool a4)]))])) ?_ ?_
  ·rintro y490
   dsimp only [zdV]
   refine .g 10 rfl<|.ln rfl rfl<|.g 3 rfl<|?_
   refine .cut (fun x:Int × (List AD)=>(znY x.1 x.2,[(11,some (grA kD 3 x.2))],[(0,(.live 54 [(.int .i64 x.1),(.int .i64 a3)])),(1,(.live 29 [(.ptr 0 0)])),(2,(.live 4 [(.bool a4)])),(3,(grV kD 26 x.2))])) ?_ ?_
   ·rintro ⟨y731,y732⟩
    dsimp only [znY]
    refine .g 8 rfl<|?_
    refine .weak ?_ (fun a w h=>Conc.gr_still kD h 8 3 26 y732 rfl rfl)
    exact .fi rfl rfl
   ·intro h381
    refine .g 1 rfl<|?_
    refine .weak ?_ (fun a w h=>Conc.gr_nil kD h 11 3 26 rfl)
    refine .lo (fun n (x:Int × Int × (List AD))=>zaF y488 y490 a3 a4 n x.1 x.2.1 x.2.2) (fun x=>([eP 0 0,(3,some (.fn 74 [] [(.ptr 1 0),(.ptr 2 0)])),eK kD 10 y490,(11,some (grA kD 3 x.2.2)),eK kD 42 y488,eI 43 (y488.length:Int),eI 44 x.1],[(0,(.live 54 [(.int .i64 x.2.1),(.int .i64 a3)])),(1,(.live 29 [(.ptr 0 0)])),(2,(.live 4 [(.bool a4)])),(3,(grV kD 26 x.2.2))])) (0,a2,[]) rfl (fun hE=>jn (m:=3) [(0,0),(1,1),(2,2),(3,3)] hE (.p rfl rfl<|.g rfl (zU _ .nil (.p rfl<|.p rfl<|.nil))<|.l rfl<|.g rfl (zC (K:=kD) (by rfl) [])<|.l rfl<|.i rfl<|.i rfl<|.nil) (.v rfl (.i<|.i<|.nil)<|.v rfl (.p rfl<|.nil)<|.v rfl (.b<|.nil)<|.cons (.refl _) (zE (K:=kD) 26 [])<|.nil) rfl) ?_
    rintro n4 ⟨y892,y893,y894⟩
    try dsimp only
    rw [zaF]
    refine .g 6 rfl<|?_
    refine .cd rfl (fun _ _=>?_) fun _ _=>?_
    ·refine .g 3 rfl<|?_
     refine .cut (fun x:Int × (List AD)=>(zko (fun z0 z1 z2=>zaF y488 y490 a3 a4 n4 z0 z1 z2) y892 x.1 x.2,[eP 0 0,(3,some (.fn 74 [] [(.ptr 1 0),(.ptr 2 0)])),eK kD 10 y490,(11,some (grA kD 3 x.2)),eK kD 42 y488,eI 43 (y488.length:Int),eI 44 y892],[(0,(.live 54 [(.int .i64 x.1),(.int .i64 a3)])),(1,(.live 29 [(.ptr 0 0)])),(2,(.live 4 [(.bool a4)])),(3,(grV kD 26 x.2))])) ?_ ?_
     ·rintro ⟨y933,y934⟩
      dsimp only [zko]
      refine .g 5 rfl<|.ao ((i64.wrap (y892+1)),y933,y934) rfl fun hE=>jn (m:=3) [(0,0),(1,1),(2,2),(3,3)] hE (.p rfl rfl<|.g rfl (zU _ .nil (.p rfl<|.p rfl<|.nil))<|.l rfl<|.g rfl (zC (K:=kD) (by rfl) y934)<|.l rfl<|.i rfl<|.i rfl<|.nil) (.v rfl (.i<|.i<|.nil)<|.v rfl (.p rfl<|.nil)<|.v rfl (.b<|.nil)<|.cons (.refl _) (zE (K:=kD) 26 y934)<|.nil) rfl
     ·intro h693
      refine .g 3 rfl<|.ix rfl rfl<|.g 8 rfl<|.ln rfl rfl<|.g 3 rfl<|?_
      refine .cut (fun x:Int × (List AD)=>(zkp (fun z0 z1 z2=>zaF y488 y490 a3 a4 n4 z0 z1 z2) y892 x.1 x.2,[eP 0 0,(3,some (.fn 74 [] [(.ptr 1 0),(.ptr 2 0)])),eK kD 10 y490,(11,some (grA kD 3 x.2)),eK kD 42 y488,eI 43 (y488.length:Int),eI 44 y892],[(0,(.live 54 [(.int .i64 x.1),(.int .i64 a3)])),(1,(.live 29 [(.ptr 0 0)])),(2,(.live 4 [(.bool a4)])),(3,(grV kD 26 x.2))])) ?_ ?_
      ·rintro ⟨y953,y954⟩
       dsimp only [zkp]
       refine .g 1 rfl<|.jo (h693 (y953,y954)) rfl fun hE=>jn (m:=3) [(0,0),(1,1),(2,2),(3,3)] hE (.p rfl rfl<|.g rfl (zU _ .nil (.p rfl<|.p rfl<|.nil))<|.l rfl<|.g rfl (zC (K:=kD) (by rfl) y954)<|.l rfl<|.i rfl<|.i rfl<|.nil) (.v rfl (.i<|.i<|.nil)<|.v rfl (.p rfl<|.nil)<|.v rfl (.b<|.nil)<|.cons (.refl _) (zE (K:=kD) 26 y954)<|.nil) rfl
      ·intro h725
       refine .g 1 rfl<|?_
       refine .lo (fun n (x:Int × Int × (List AD))=>zbJ y490 y488 y892 a3 a4 (fun z0 z1 z2=>zaF y488 y490 a3 a4 n4 z0 z1 z2) n x.1 x.2.1 x.2.2) (fun x=>([eP 0 0,(3,some (.fn 74 [] [(.ptr 1 0),(.ptr 2 0)])),eK kD 10 y490,(11,some (grA kD 3 x.2.2)),eP 13 4,eK kD 42 y488,eI 43 (y488.length:Int),eI 44 y892,eK kD 48 y490,eI 49 (y490.length:Int),eI 50 x.1],[(0,(.live 54 [(.int .i64 x.2.1),(.int .i64 a3)])),(1,(.live 29 [(.ptr 0 0)])),(2,(.live 4 [(.bool a4)])),(3,(grV kD 26 x.2.2)),(4,(.live 26 [(.bool (((y488.getD y892.toNat zAD).M).Neg)),(slK kU (((y488.getD y892.toNat zAD).M).Mag)),(.int .i64 ((y488.getD y892.toNat zAD).E))]))])) (0,y893,y894) rfl (fun hE=>jn (m:=3) [(0,0),(1,1),(2,2),(3,3),(4,4)] hE (.p rfl rfl<|.g rfl (zU _ .nil (.p rfl<|.p rfl<|.nil))<|.l rfl<|.g rfl (zC (K:=kD) (by rfl) y894)<|.p rfl rfl<|.l rfl<|.i rfl<|.i rfl<|.l rfl<|.i rfl<|.i rfl<|.nil) (.v rfl (.i<|.i<|.nil)<|.v rfl (.p rfl<|.nil)<|.v rfl (.b<|.nil)<|.cons (.refl _) (zE (K:=kD) 26 y894)<|.v rfl (.b<|.l<|.i<|.nil)<|.nil) rfl) ?_
       rintro n7 ⟨y966,y967,y968⟩
       try dsimp only
       rw [zbJ]
       refine .g 6 rfl<|?_
       refine .cd rfl (fun _ _=>?_) fun _ _=>?_
       ·refine .g 6 rfl<|.ix rfl rfl<|.g 11 rfl<|.c0 [1,0,2] [] [false,false,false] rfl rfl (fun _=>rfl) (fun _=>rfl) fun x971 _=>.g 2 rfl<|.c0 [0] [] [true] rfl rfl (fun _=>rfl) (fun _=>rfl) fun x972 _=>.st rfl (bs kD [(⟨x972.1.M,x972.1.E⟩:AD)] rfl rfl) rfl<|.guard fun h755=>.sv (.row 6 kD.sz 0 (((y968++[(⟨x972.1.M,x972.1.E⟩:AD)])).length)) [(6,(rwK kD 26 (y968++[(⟨x972.1.M,x972.1.E⟩:AD)]))),(3,.dead)] rfl (zax kD _ _ _ _ _ 3 6 y968 [(⟨x972.1.M,x972.1.E⟩:AD)] rfl underlying90 zii zij rfl rfl rfl rfl rfl rfl rfl h755) rfl<|.g 8 rfl<|?_
        refine .weak ?_ (fun a w h=>Conc.gr_row kD h 11 6 26 (y968++[(⟨x972.1.M,x972.1.E⟩:AD)]) rfl rfl (by first | omega | (simp only [List.length_append,List.length_cons,List.length_set]; omega) | simp))
        exact .ao ((i64.wrap (y966+1)),x972.2,(y968++[(⟨x972.1.M,x972.1.E⟩:AD)])) rfl fun hE=>jn (m:=3) [(0,0),(1,1),(2,2),(6,3),(4,4)] hE (.p rfl rfl<|.g rfl (zU _ .nil (.p rfl<|.p rfl<|.nil))<|.l rfl<|.g rfl (zC (K:=kD) (by rfl) (y968++[(⟨x972.1.M,x972.1.E⟩:AD)]))<|.p rfl rfl<|.l rfl<|.i rfl<|.i rfl<|.l rfl<|.i rfl<|.i rfl<|.nil) (.v rfl (.i<|.i<|.nil)<|.v rfl (.p rfl<|.nil)<|.v rfl (.b<|.nil)<|.cons (.refl _) (zE (K:=kD) 26 (y968++[(⟨x972.1.M,x972.1.E⟩:AD)]))<|.v rfl (.b<|.l<|.i<|.nil)<|.nil) rfl
       ·refine .g 4 rfl<|.jo (h725 (y967,y968)) rfl fun hE=>jn (m:=3) [(0,0),(1,1),(2,2),(3,3)] hE (.p rfl rfl<|.g rfl (zU _ .nil (.p rfl<|.p rfl<|.nil))<|.l rfl<|.g rfl (zC (K:=kD) (by rfl) y968)<|.l rfl<|.i rfl<|.i rfl<|.nil) (.v rfl (.i<|.i<|.nil)<|.v rfl (.p rfl<|.nil)<|.v rfl (.b<|.nil)<|.cons (.refl _) (zE (K:=kD) 26 y968)<|.nil) rfl
    ·refine .g 4 rfl<|.jo (h381 (y893,y894)) rfl fun hE=>jn (m:=3) [(0,0),(1,1),(2,2),(3,3)] hE (.g rfl (zC (K:=kD) (by rfl) y894)<|.nil) (.v rfl (.i<|.i<|.nil)<|.v rfl (.p rfl<|.nil)<|.v rfl (.b<|.nil)<|.cons (.refl _) (zE (K:=kD) 26 y894)<|.nil) rfl
  ·intro h756
   refine .cd rfl (fun _ _=>?_) fun _ _=>?_
   ·refine .g 2 rfl<|.guard fun h759=>.sv (slK kD ([a1.Lo,a1.Hi].take 1)) [] rfl (zci kD _ _ _ _ _ _ 0 1 rfl underlying90 zlb rfl rfl rfl rfl rfl h759) rfl<|.g 2 rfl<|.jw (h756 ([a1.Lo,a1.Hi].take 1)) [(0,0),(1,1),(2,2)] rfl
   ·refine .g 1 rfl<|.jw (h756 [a1.Lo,a1.Hi]) [(0,0),(1,1),(2,2)] rfl
 ·intro h760
  refine .cd rfl (fun _ _=>?_) fun _ _=>?_
  ·refine .g 2 rfl<|.guard fun h763=>.sv (slK kD ([a0.Lo,a0.Hi].take 1)) [] rfl (zci kD _ _ _ _ _ _ 0 1 rfl underlying90 zlb rfl rfl rfl rfl rfl h763) rfl<|.g 2 rfl<|.jw (h760 ([a0.Lo,a0.Hi].take 1)) [(0,0),(1,1),(2,2),(4,4)] rfl
  ·refine .g 1 rfl<|.jw (h760 [a0.Lo,a0.Hi]) [(0,0),(1,1),(2,2),(4,4)] rfl
instance zF2 (a0:AI) (a1:AI) (a2:Int) (a3:Int):CC (Qq a0 a1 a2 a3) prog 17 [(.ptr 0 0),(.agg (kI.enc a0)),(.agg (kI.enc a1))] [(.live 54 [(.int .i64 a2),(.int .i64 a3)])] (fun r=>(.agg (kI.enc r.1))) (fun r=>[(.live 54 [(.int .i64 r.2),(.int .i64 a3)])]):=cc func17 (by kernel_rfl) rfl fun E=>by
 unfold Qq
 exact wk
instance zF3 (a0:AI) (a1:AI):PC (zfg a0 a1) prog 236 [(.agg (kI.enc a0)),(.agg (kI.enc a1))] (fun r=>(.bool r)):=pc func236 (by kernel_rfl) rfl fun E=>by
 unfold zfg
 exact wk
instance zF4 (a0:AI) (a1:Int) (a2:Int) (a3:Int):CC (zdW a0 a1 a2 a3) prog 196 [(.ptr 0 0),(.agg (kI.enc a0)),(.int .i64 a1)] [(.live 54 [(.int .i64 a2),(.int .i64 a3)])] (fun r=>(.bool r.1)) (fun r=>[(.live 54 [(.int .i64 r.2),(.int .i64 a3)])]):=cc func196 (by kernel_rfl) rfl fun E=>by
 unfold zdW
 exact wk
instance zF5 (a0:Int):PC (zdX a0) prog 237 [(.int .i64 a0)] (fun r=>(.int .i64 r)):=pc func237 (by kernel_rfl) rfl fun E=>by
 unfold zdX
 exact wk
instance zF6 (a0:AI):PC (zkr a0) prog 269 [(.agg (kI.enc a0))] (fun r=>(.agg (kI.enc r))):=pc func269 (by kernel_rfl) rfl fun E=>by
 unfold zkr
 exact wk
instance zF7 (a0:Int) (a1:AI) (a2:Int) (a3:Int) (a4:Bool) (a5:List Int) (a6:Int) (a7:Bool) (a8:List Int) (a9:Int):CC (zhG a0 a1 a2 a3 a4 a5 a6 a7 a8 a9) prog 198 [(.int .i64 a0),(.agg (kI.enc a1)),(.iptr [(.fn 269 [] [])]),(.ptr 0 0),(.ptr 2 0)] [(.live 29 [(.ptr 1 0)]),(.live 54 [(.int .i64 a2),(.int .i64 a3)]),(.live 37 [(.bool a4),(slK kU a5),(.int .i64 a6),(.bool a7),(slK kU a8),(.int .i64 a9)])] (fun r=>(.tup [(.agg (kI.enc r.1)),(.agg (kI.enc r.2.1))])) (fun r=>[(.live 29 [(.ptr 1 0)]),(.live 54 [(.int .i64 r.2.2),(.int .i64 a3)]),(.live 37 [(.bool a4),(slK kU a5),(.int .i64 a6),(.bool a7),(slK kU a8),(.int .i64 a9)])]):=cc func198 (by kernel_rfl) rfl fun E=>by
 unfold zhG
 exact wk
instance zF8 (a0:AI) (a1:AD) (a2:Int) (a3:Int):CC (zbK a0 a1 a2 a3) prog 150 [(.ptr 0 0),(.agg (kI.enc a0)),(.agg (kD.enc a1))] [(.live 54 [(.int .i64 a2),(.int .i64 a3)])] (fun r=>(.agg (kI.enc r.1))) (fun r=>[(.live 54 [(.int .i64 r.2),(.int .i64 a3)])]):=cc func150 (by kernel_rfl) rfl fun E=>by
 unfold zbK
 exact wk
end Go.Proofs.YtjffljhmjdljeaaGreat.Gen
