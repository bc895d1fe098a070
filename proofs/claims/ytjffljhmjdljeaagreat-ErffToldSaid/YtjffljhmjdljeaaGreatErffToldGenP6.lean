/- Printed by geng.py: a call does what the plain function says. -/
import Derived.Test.YtjffljhmjdljeaaGreatErffToldGenP5
set_option linter.unusedVariables false
set_option linter.unusedSimpArgs false
set_option maxRecDepth 4000
namespace Go.Proofs.YtjffljhmjdljeaaGreat.Gen
open Go Go.Abs Go.Proofs Go.Proofs.Tryz
instance r03_short_i (a0:List Int) (a1:Int):PC (r03_short a0 a1) Tryz.prog 260 [(slK (kInt .u32) a0),(.int .u64 a1)] (fun r=>(.tup [(slK (kInt .u32) r.1),(slK (kInt .u32) r.2)])):=pc func260 (by kernel_rfl) rfl fun E=>by
 unfold r03_short
 refine .g 2 rfl<|.st rfl (as0 rfl) rfl<|.st rfl (as0 rfl) rfl<|.g 5 rfl<|.ln rfl rfl<|.guard fun h1=>.sv (.row 0 (kInt .u32).sz 0 (((List.replicate a0.length (kInt .u32).z)).length)) [(0,(rwK (kInt .u32) 134 (List.replicate a0.length (kInt .u32).z)))] rfl (snd_makeK (kInt .u32) _ _ _ _ _ 0 _ _ _ rfl underlying22 ze134 sb134 (by decide) rfl rfl rfl rfl rfl h1) rfl<|.g 12 rfl<|.ln rfl rfl<|.g 4 rfl<|?_
 refine .cut (fun x:Int × (List Int)=>(r03_short_j1 x.1 x.2,[(6,some (.row 0 (kInt .u32).sz 0 ((x.2).length))),eX 7 x.1],[(0,(rwK (kInt .u32) 134 x.2))])) ?_ ?_
 ·rintro ⟨y23,y24⟩
  dsimp only [r03_short_j1]
  refine .g 2 rfl<|?_
  refine .weak ?_ (fun a w h=>Conc.freezeK (kInt .u32) h 6 0 0 ((y24).length) 134 y24 rfl rfl (by omega))
  refine .weak ?_ (fun a w h=>take_all h)
  refine .g 2 rfl<|.p0 rfl rfl fun x25 _=>.g 1 rfl<|.p0 rfl rfl fun x26 _=>.g 5 rfl<|.fi rfl rfl
 ·intro h34
  refine .g 1 rfl<|?_
  refine .lp (fun n (x:Int × Int × (List Int))=>r03_short_l2 a0 a1 n x.1 x.2.1 x.2.2) (fun x=>([eL 0 a0,eX 1 a1,(6,some (.row 0 (kInt .u32).sz 0 ((x.2.2).length))),eX 7 x.1,eI 8 x.2.1],[(0,(rwK (kInt .u32) 134 x.2.2))])) (0,(IntKind.i64.wrap ((a0.length:Int)-1)),(List.replicate a0.length (kInt .u32).z)) [(0,0)] rfl ?_
  rintro n2 ⟨y30,y31,y32⟩
  try dsimp only
  rw [r03_short_l2]
  refine .g 7 rfl<|?_
  refine .cd rfl (fun _ _=>?_) fun _ _=>?_
  ·refine .g 10 rfl<|.ix rfl rfl<|.g 12 rfl<|.guard fun h62=>.st rfl (snd_quo _ _ _ _ _ _ _ rfl rfl rfl rfl rfl h62) rfl<|.g 1 rfl<|.guard fun h63=>?_
   obtain ⟨h631,h632⟩:=h63
   refine .sv (.rptr 0 (kInt .u32).sz y31.toNat 0) [] rfl (idx_r (snd_index_r _ _ _ _ _ 0 0 ((y32).length) _ y31 rfl underlying22 si134 rfl rfl rfl rfl h631 (by omega)) (Nat.zero_add _)) rfl<|.sm [(0,(rwK (kInt .u32) 134 ((y32).set y31.toNat (IntKind.u32.wrap (IntKind.u64.wrap ((orI .u64 (shlI .u64 y30 32) (IntKind.u64.wrap (a0.getD y31.toNat (kInt .u32).z))).tdiv a1))))))] rfl (snd_storeK_sca (kInt .u32) _ _ _ 0 y31.toNat _ _ (IntKind.u32.wrap (IntKind.u64.wrap ((orI .u64 (shlI .u64 y30 32) (IntKind.u64.wrap (a0.getD y31.toNat (kInt .u32).z))).tdiv a1))) _ rfl rfl rfl sc134 rfl rfl rfl rfl rfl rfl (by first | omega | (simp only [List.length_set]; omega))) rfl<|?_
   refine .weak ?_ (fun a w h=>Conc.relen h 6 ((((y32).set y31.toNat (IntKind.u32.wrap (IntKind.u64.wrap ((orI .u64 (shlI .u64 y30 32) (IntKind.u64.wrap (a0.getD y31.toNat (kInt .u32).z))).tdiv a1))))).length) rfl List.length_set.symm)
   refine .g 5 rfl<|.guard fun h64=>.st rfl (snd_rem _ _ _ _ _ _ _ rfl rfl rfl rfl rfl h64) rfl<|.g 9 rfl<|.ag (((orI .u64 (shlI .u64 y30 32) (IntKind.u64.wrap (a0.getD y31.toNat (kInt .u32).z))).tmod a1),(IntKind.i64.wrap (y31-1)),((y32).set y31.toNat (IntKind.u32.wrap (IntKind.u64.wrap ((orI .u64 (shlI .u64 y30 32) (IntKind.u64.wrap (a0.getD y31.toNat (kInt .u32).z))).tdiv a1))))) [(0,0)] rfl
  ·refine .g 4 rfl<|.jw (h34 (y30,y32)) [(0,0)] rfl
instance r03_guess_i (a0:List Int) (a1:List Int):PC (r03_guess a0 a1) Tryz.prog 261 [(slK (kInt .u32) a0),(slK (kInt .u32) a1)] (fun r=>(.int .u64 r)):=pc func261 (by kernel_rfl) rfl fun E=>by
 unfold r03_guess
 refine .g 8 rfl<|.ln rfl rfl<|.g 7 rfl<|.ln rfl rfl<|.g 4 rfl<|?_
 refine .cd rfl (fun _ _=>?_) fun _ _=>?_
 ·refine .g 7 rfl<|.fi rfl rfl
 ·refine .g 7 rfl<|.ix rfl rfl<|.g 9 rfl<|.ln rfl rfl<|.g 4 rfl<|?_
  refine .cut (fun x:Int=>(r03_guess_j1 a1 x,[eL 1 a1,eI 5 (a1.length:Int),eX 6 x],[])) ?_ ?_
  ·rintro y2
   dsimp only [r03_guess_j1]
   refine .g 7 rfl<|.ix rfl rfl<|.g 2 rfl<|.guard fun h8=>.st rfl (snd_quo _ _ _ _ _ _ _ rfl rfl rfl rfl rfl h8) rfl<|.g 5 rfl<|.fi rfl rfl
  ·intro h9
   refine .cd rfl (fun _ _=>?_) fun _ _=>?_
   ·refine .g 4 rfl<|.ix rfl rfl<|.g 6 rfl<|.jw (h9 (orI .u64 (IntKind.u64.wrap (a0.getD ((IntKind.i64.wrap ((a1.length:Int)-1)).toNat) (kInt .u32).z)) (shlI .u64 (IntKind.u64.wrap (a0.getD a1.length (kInt .u32).z)) 32))) [] rfl
   ·refine .g 1 rfl<|.jw (h9 (IntKind.u64.wrap (a0.getD ((IntKind.i64.wrap ((a1.length:Int)-1)).toNat) (kInt .u32).z))) [] rfl
instance r01_Sub_i (a0:List Int) (a1:List Int):PC (r01_Sub a0 a1) Tryz.prog 262 [(slK (kInt .u32) a0),(slK (kInt .u32) a1)] (fun r=>(.tup [(slK (kInt .u32) r.1),(.bool r.2)])):=pc func262 (by kernel_rfl) rfl fun E=>by
 unfold r01_Sub
 refine .g 11 rfl<|.p0 rfl rfl fun x40 _=>.g 3 rfl<|?_
 refine .cd rfl (fun _ _=>?_) fun _ _=>?_
 ·refine .g 8 rfl<|.fj rfl rfl (.tup (.cons AVle.nil (.cons (AVle.refl _) .nil)))
 ·refine .g 18 rfl<|?_
  refine .cut (fun x:(List Int)=>(r01_Sub_j1 x,[(6,some (grA (kInt .u32) 0 x))],[(0,(grV (kInt .u32) 134 x))])) ?_ ?_
  ·rintro y59
   dsimp only [r01_Sub_j1]
   refine .g 2 rfl<|?_
   refine .weak ?_ (fun a w h=>Conc.gr_still (kInt .u32) h 6 0 134 y59 rfl rfl)
   refine .g 2 rfl<|.p0 rfl rfl fun x60 _=>.g 5 rfl<|.fi rfl rfl
  ·intro h29
   refine .g 1 rfl<|?_
   refine .weak ?_ (fun a w h=>Conc.gr_nil (kInt .u32) h 6 0 134 rfl)
   refine .lo (fun n (x:Int × Int × (List Int))=>r01_Sub_l2 a0 a1 n x.1 x.2.1 x.2.2) (fun x=>([eL 0 a0,eL 1 a1,(6,some (grA (kInt .u32) 0 x.2.2)),eX 7 x.1,eI 8 x.2.1],[(0,(grV (kInt .u32) 134 x.2.2))])) (0,0,[]) rfl (fun hE=>jn (m:=0) [(0,0)] hE (.l rfl<|.l rfl<|.g rfl (ren_gr (K:=(kInt .u32)) (by rfl) [])<|.i rfl<|.i rfl<|.nil) (.cons (.refl _) (renV_gr (K:=(kInt .u32)) 134 [])<|.nil) rfl) ?_
   rintro n2 ⟨y72,y73,y74⟩
   try dsimp only
   rw [r01_Sub_l2]
   refine .g 5 rfl<|.ln rfl rfl<|.g 3 rfl<|?_
   refine .cd rfl (fun _ _=>?_) fun _ _=>?_
   ·refine .g 8 rfl<|.p0 rfl rfl fun x77 _=>.g 3 rfl<|.p0 rfl rfl fun x78 _=>.g 11 rfl<|.st rfl (bs (kInt .u32) [(IntKind.u32.wrap (IntKind.u64.wrap ((IntKind.u64.wrap ((IntKind.u64.wrap (x77+4294967296))-x78))-y72)))] rfl rfl) rfl<|.guard fun h53=>.sv (.row 1 (kInt .u32).sz 0 (((y74++[(IntKind.u32.wrap (IntKind.u64.wrap ((IntKind.u64.wrap ((IntKind.u64.wrap (x77+4294967296))-x78))-y72)))])).length)) [(1,(rwK (kInt .u32) 134 (y74++[(IntKind.u32.wrap (IntKind.u64.wrap ((IntKind.u64.wrap ((IntKind.u64.wrap (x77+4294967296))-x78))-y72)))]))),(0,.dead)] rfl (snd_appendK_gr (kInt .u32) _ _ _ _ _ 0 1 y74 [(IntKind.u32.wrap (IntKind.u64.wrap ((IntKind.u64.wrap ((IntKind.u64.wrap (x77+4294967296))-x78))-y72)))] rfl underlying22 ze134 sb134 rfl rfl rfl rfl rfl rfl rfl h53) rfl<|.g 16 rfl<|?_
    refine .weak ?_ (fun a w h=>Conc.gr_row (kInt .u32) h 6 1 134 (y74++[(IntKind.u32.wrap (IntKind.u64.wrap ((IntKind.u64.wrap ((IntKind.u64.wrap (x77+4294967296))-x78))-y72)))]) rfl rfl (by first | omega | (simp only [List.length_append,List.length_cons,List.length_set]; omega) | simp))
    exact .ao ((IntKind.u64.wrap (1-(shrI .u64 (IntKind.u64.wrap ((IntKind.u64.wrap ((IntKind.u64.wrap (x77+4294967296))-x78))-y72)) 32))),(IntKind.i64.wrap (y73+1)),(y74++[(IntKind.u32.wrap (IntKind.u64.wrap ((IntKind.u64.wrap ((IntKind.u64.wrap (x77+4294967296))-x78))-y72)))])) rfl fun hE=>jn (m:=0) [(1,0)] hE (.l rfl<|.l rfl<|.g rfl (ren_gr (K:=(kInt .u32)) (by rfl) (y74++[(IntKind.u32.wrap (IntKind.u64.wrap ((IntKind.u64.wrap ((IntKind.u64.wrap (x77+4294967296))-x78))-y72)))]))<|.i rfl<|.i rfl<|.nil) (.cons (.refl _) (renV_gr (K:=(kInt .u32)) 134 (y74++[(IntKind.u32.wrap (IntKind.u64.wrap ((IntKind.u64.wrap ((IntKind.u64.wrap (x77+4294967296))-x78))-y72)))]))<|.nil) rfl
   ·refine .g 4 rfl<|.jo (h29 y74) rfl fun hE=>jn (m:=0) [(0,0)] hE (.g rfl (ren_gr (K:=(kInt .u32)) (by rfl) y74)<|.nil) (.cons (.refl _) (renV_gr (K:=(kInt .u32)) 134 y74)<|.nil) rfl
instance r03_DivMod_i (a0:List Int) (a1:List Int):PC (r03_DivMod a0 a1) Tryz.prog 253 [(slK (kInt .u32) a0),(slK (kInt .u32) a1)] (fun r=>(.tup [(slK (kInt .u32) r.1),(slK (kInt .u32) r.2.1),(.bool r.2.2)])):=pc func253 (by kernel_rfl) rfl fun E=>by
 unfold r03_DivMod
 refine .g 10 rfl<|.p0 rfl rfl fun x694 _=>.g 7 rfl<|.ln rfl rfl<|.g 3 rfl<|?_
 refine .cd rfl (fun _ _=>?_) fun _ _=>?_
 ·refine .g 9 rfl<|.fj rfl rfl (.tup (.cons AVle.nil (.cons AVle.nil (.cons (AVle.refl _) .nil))))
 ·refine .g 6 rfl<|.ln rfl rfl<|.g 3 rfl<|?_
  refine .cd rfl (fun _ _=>?_) fun _ _=>?_
  ·refine .g 4 rfl<|.ix rfl rfl<|.g 2 rfl<|.p0 rfl rfl fun x695 _=>.g 18 rfl<|.fi rfl rfl
  ·refine .g 5 rfl<|.ln rfl rfl<|.g 2 rfl<|.p0 rfl rfl fun x696 _=>.g 8 rfl<|.p0 rfl rfl fun x697 _=>.g 10 rfl<|.p0 rfl rfl fun x698 _=>.g 10 rfl<|.ln rfl rfl<|.guard fun h11=>.sv (.row 0 (kInt .u32).sz 0 (((List.replicate x698.1.length (kInt .u32).z)).length)) [(0,(rwK (kInt .u32) 134 (List.replicate x698.1.length (kInt .u32).z)))] rfl (snd_makeK (kInt .u32) _ _ _ _ _ 0 _ _ _ rfl underlying22 ze134 sb134 (by decide) rfl rfl rfl rfl rfl h11) rfl<|.g 12 rfl<|.ln rfl rfl<|?_
   refine .g 4 rfl<|?_
   refine .cut (fun x:(List Int) × (List Int)=>(r03_DivMod_j1 x694 x696 x.1 x.2,[eI 10 (IntKind.i64.wrap ((IntKind.i64.wrap (32*(x694.length:Int)))-x696)),(13,some (.row 0 (kInt .u32).sz 0 ((x.2).length))),eL 14 x.1],[(0,(rwK (kInt .u32) 134 x.2))])) ?_ ?_
   ·rintro ⟨y1041,y1042⟩
    dsimp only [r03_DivMod_j1]
    refine .g 2 rfl<|?_
    refine .weak ?_ (fun a w h=>Conc.freezeK (kInt .u32) h 13 0 0 ((y1042).length) 134 y1042 rfl rfl (by omega))
    refine .weak ?_ (fun a w h=>take_all h)
    refine .g 2 rfl<|.p0 rfl rfl fun x1043 _=>.g 2 rfl<|.p0 rfl rfl fun x1044 _=>.g 6 rfl<|.fi rfl rfl
   ·intro h356
    refine .g 1 rfl<|?_
    refine .weak ?_ (fun a w h=>Conc.noV (Conc.put1 (x:=0) h (t:=14) (v':=slK (kInt .u32) []) rfl rfl AVle.nil (.refl _)))
    refine .lp (fun n (x:(List Int) × Int × (List Int))=>r03_DivMod_l2 x698 x697 x694 x696 n x.1 x.2.1 x.2.2) (fun x=>([eL 7 x697.1,eI 10 (IntKind.i64.wrap ((IntKind.i64.wrap (32*(x694.length:Int)))-x696)),eL 11 x698.1,(13,some (.row 0 (kInt .u32).sz 0 ((x.2.2).length))),eL 14 x.1,eI 15 x.2.1],[(0,(rwK (kInt .u32) 134 x.2.2))])) ([],(IntKind.i64.wrap ((x698.1.length:Int)-1)),(List.replicate x698.1.length (kInt .u32).z)) [(0,0)] rfl ?_
    rintro n2 ⟨y1272,y1273,y1274⟩
    try dsimp only
    rw [r03_DivMod_l2]
    refine .g 7 rfl<|?_
    refine .cd rfl (fun _ _=>?_) fun _ _=>?_
    ·refine .g 3 rfl<|?_
     refine .cut (fun x:(List Int) × (List Int)=>(r03_DivMod_j3 (fun z0 z1 z2=>r03_DivMod_l2 x698 x697 x694 x696 n2 z0 z1 z2) y1273 x.1 x.2,[eL 7 x697.1,eI 10 (IntKind.i64.wrap ((IntKind.i64.wrap (32*(x694.length:Int)))-x696)),eL 11 x698.1,(13,some (.row 0 (kInt .u32).sz 0 ((x.2).length))),eL 14 x.1,eI 15 y1273],[(0,(rwK (kInt .u32) 134 x.2))])) ?_ ?_
     ·rintro ⟨y1330,y1331⟩
      dsimp only [r03_DivMod_j3]
      refine .g 6 rfl<|.ag (y1330,(IntKind.i64.wrap (y1273-1)),y1331) [(0,0)] rfl
     ·intro h643
      refine .g 5 rfl<|.ix rfl rfl<|.g 1 rfl<|.sv (.row 1 (kInt .u32).sz 0 (([(x698.1.getD y1273.toNat (kInt .u32).z)]).length)) [(1,(rwK (kInt .u32) 134 [(x698.1.getD y1273.toNat (kInt .u32).z)]))] rfl (snd_buildSliceK_row (kInt .u32) _ _ 1 1 _ _ [(0,(.int .u32 (x698.1.getD y1273.toNat (kInt .u32).z)))] [(x698.1.getD y1273.toNat (kInt .u32).z)] rfl underlying22 ze134 si134 rfl rfl rfl rfl (by decide) (by decide) (by decide) rfl rfl rfl) rfl<|.g 1 rfl<|.guard fun h645=>.sv (.row 2 (kInt .u32).sz 0 ((([(x698.1.getD y1273.toNat (kInt .u32).z)]++y1272)).length)) [(2,(rwK (kInt .u32) 134 ([(x698.1.getD y1273.toNat (kInt .u32).z)]++y1272))),(1,.dead)] rfl (snd_appendK0 (kInt .u32) _ _ _ _ _ 1 2 [(x698.1.getD y1273.toNat (kInt .u32).z)] y1272 rfl underlying22 ze134 sb134 rfl rfl rfl rfl rfl rfl h645) rfl<|?_
      refine .weak ?_ (fun a w h=>Conc.freezeK (kInt .u32) h 72 2 0 ((([(x698.1.getD y1273.toNat (kInt .u32).z)]++y1272)).length) 134 ([(x698.1.getD y1273.toNat (kInt .u32).z)]++y1272) rfl rfl (by omega))
      refine .weak ?_ (fun a w h=>take_all h)
      refine .p0 rfl rfl fun x1332 _=>.g 7 rfl<|.p0 rfl rfl fun x1333 _=>.g 8 rfl<|.p0 rfl rfl fun x1334 _=>.p0 rfl rfl fun x1335 _=>.p0 rfl rfl fun x1336 _=>.g 8 rfl<|?_
      refine .cut (fun x:Int × (List Int)=>(r03_DivMod_j4 y1273 y1274 (fun z0 z1 z2=>r03_DivMod_l2 x698 x697 x694 x696 n2 z0 z1 z2) x.1 x.2,[eL 7 x697.1,eI 10 (IntKind.i64.wrap ((IntKind.i64.wrap (32*(x694.length:Int)))-x696)),eL 11 x698.1,(13,some (.row 0 (kInt .u32).sz 0 ((y1274).length))),eI 15 y1273,eX 16 x.1,eL 17 x.2],[(0,(rwK (kInt .u32) 134 y1274))])) ?_ ?_
      ·rintro ⟨y1361,y1362⟩
       dsimp only [r03_DivMod_j4]
       refine .g 7 rfl<|.guard fun h675=>?_
       obtain ⟨h6751,h6752⟩:=h675
       refine .sv (.rptr 0 (kInt .u32).sz y1273.toNat 0) [] rfl (idx_r (snd_index_r _ _ _ _ _ 0 0 ((y1274).length) _ y1273 rfl underlying22 si134 rfl rfl rfl rfl h6751 (by omega)) (Nat.zero_add _)) rfl<|.sm [(0,(rwK (kInt .u32) 134 ((y1274).set y1273.toNat (IntKind.u32.wrap y1361))))] rfl (snd_storeK_sca (kInt .u32) _ _ _ 0 y1273.toNat _ _ (IntKind.u32.wrap y1361) _ rfl rfl rfl sc134 rfl rfl rfl rfl rfl rfl (by first | omega | (simp only [List.length_set]; omega))) rfl<|?_
       refine .weak ?_ (fun a w h=>Conc.relen h 13 ((((y1274).set y1273.toNat (IntKind.u32.wrap y1361))).length) rfl List.length_set.symm)
       refine .g 7 rfl<|.jw (h643 (y1362,((y1274).set y1273.toNat (IntKind.u32.wrap y1361)))) [(0,0)] rfl
      ·intro h676
       refine .g 1 rfl<|?_
       refine .lp (fun n (x:Int × (List Int) × Bool)=>r03_DivMod_l5 x697 x1332 y1273 y1274 (fun z0 z1 z2=>r03_DivMod_l2 x698 x697 x694 x696 n2 z0 z1 z2) n x.1 x.2.1 x.2.2) (fun x=>([eL 7 x697.1,eI 10 (IntKind.i64.wrap ((IntKind.i64.wrap (32*(x694.length:Int)))-x696)),eL 11 x698.1,(13,some (.row 0 (kInt .u32).sz 0 ((y1274).length))),eL 14 x1332,eI 15 y1273,eX 16 x.1,eL 17 x.2.1,eB 18 x.2.2],[(0,(rwK (kInt .u32) 134 y1274))])) (x1333,x1336.1,x1336.2) [(0,0)] rfl ?_
       rintro n5 ⟨y1378,y1379,y1380⟩
       try dsimp only
       rw [r03_DivMod_l5]
       refine .g 7 rfl<|?_
       refine .cd rfl (fun _ _=>?_) fun _ _=>?_
       ·refine .g 14 rfl<|.p0 rfl rfl fun x1384 _=>.p0 rfl rfl fun x1385 _=>.p0 rfl rfl fun x1386 _=>.g 7 rfl<|.ag ((IntKind.u64.wrap (y1378-1)),x1386.1,x1386.2) [(0,0)] rfl
       ·refine .g 4 rfl<|.jw (h676 (y1378,y1379)) [(0,0)] rfl
    ·refine .g 4 rfl<|.jw (h356 (y1272,y1274)) [(0,0)] rfl
instance r05_Div_i (a0:AD) (a1:AD) (a2:Int) (a3:Bool):PC (r05_Div a0 a1 a2 a3) Tryz.prog 229 [(.agg (kD.enc a0)),(.agg (kD.enc a1)),(.int .i64 a2),(.bool a3)] (fun r=>(.tup [(.agg (kD.enc (⟨((r.1).M),(r.1).E⟩:AD))),(.int .i64 r.2)])):=pc func229 (by kernel_rfl) rfl fun E=>by
 unfold r05_Div
 refine .g 11 rfl<|.p0 rfl rfl fun x12 _=>.g 6 rfl<|.p0 rfl rfl fun x13 _=>.g 5 rfl<|?_
 refine .cut (fun x:Bool=>(r05_Div_j1 a1 a0 a2 a3 x,[eI 2 a2,eB 3 a3,eP 4 0,eP 5 1,eP 8 2,eB 32 x],[(0,(.live 26 [(.bool a0.M.Neg),(slK (kInt .u32) a0.M.Mag),(.int .i64 a0.E)])),(1,(.live 26 [(.bool a1.M.Neg),(slK (kInt .u32) a1.M.Mag),(.int .i64 a1.E)])),(2,(.live 26 [(.bool false),(slK (kInt .u32) []),(.int .i64 0)]))])) ?_ ?_
 ·rintro y15
  dsimp only [r05_Div_j1]
  refine .g 1 rfl<|?_
  refine .cd rfl (fun _ _=>?_) fun _ _=>?_
  ·refine .g 9 rfl<|.fi rfl rfl
  ·refine .g 8 rfl<|.ln rfl rfl<|.g 3 rfl<|?_
   refine .cd rfl (fun _ _=>?_) fun _ _=>?_
   ·refine .g 9 rfl<|.fi rfl rfl
   ·refine .g 8 rfl<|.ln rfl rfl<|.g 3 rfl<|?_
    refine .cd rfl (fun _ _=>?_) fun _ _=>?_
    ·refine .g 9 rfl<|.fi rfl rfl
    ·refine .g 9 rfl<|.p0 rfl rfl fun x16 _=>.g 4 rfl<|.p0 rfl rfl fun x17 _=>.g 3 rfl<|.dn (by kernel_rfl)<|.g 7 rfl<|.p0 rfl rfl fun x18 _=>.g 9 rfl<|.p0 rfl rfl fun x19 _=>.g 33 rfl<|.ln rfl rfl<|.g 5 rfl<|.p0 rfl rfl fun x20 _=>?_
     refine .p0 rfl rfl fun x21 _=>.g 7 rfl<|.fi rfl rfl
 ·intro h18
  refine .g 4 rfl<|?_
  refine .gd 24 rfl (fun _=>?_) fun _=>?_
  ·refine .g 9 rfl<|.jw (h18 true) [(0,0),(1,1),(2,2)] rfl
  ·refine .g 4 rfl<|?_
   refine .gd 28 rfl (fun _=>?_) fun _=>?_
   ·refine .g 5 rfl<|.jw (h18 true) [(0,0),(1,1),(2,2)] rfl
   ·refine .g 1 rfl<|.p0 rfl rfl fun x22 _=>.g 3 rfl<|.jw (h18 (!x22)) [(0,0),(1,1),(2,2)] rfl
instance r06_CDiv_i (a0:AI) (a1:AI) (a2:Int) (a3:Int):CC (r06_CDiv a0 a1 a2 a3) Tryz.prog 167 [(.ptr 0 0),(.agg (kI.enc a0)),(.agg (kI.enc a1))] [(.live 171 [(.int .i64 a2),(.int .i64 a3)])] (fun r=>(.agg (kI.enc (⟨⟨(((r.1).Lo).M),((r.1).Lo).E⟩,⟨(((r.1).Hi).M),((r.1).Hi).E⟩⟩:AI)))) (fun r=>[(.live 171 [(.int .i64 a2),(.int .i64 r.2)])]):=cc func167 (by kernel_rfl) rfl fun E=>by
 unfold r06_CDiv
 refine .g 13 rfl<|.st rfl (bs kI [a0,a1] rfl rfl) rfl<|.bind fun x122 h1=>.st rfl (cl (CC.h h1) [0] [] [true] rfl (.p rfl<|.l<|.nil) (.p rfl (.i<|.i<|.nil) .nil) fnil (.cons (.v (.i<|.i<|.nil)) .nil) (.bool _) (.turned .nil) rfl) rfl<|.g 3 rfl<|?_
 refine .cd rfl (fun _ _=>?_) fun _ _=>?_
 ·refine .g 8 rfl<|.fi rfl rfl
 ·refine .g 7 rfl<|.p0 rfl rfl fun x123 _=>.g 2 rfl<|?_
  refine .cd rfl (fun _ _=>?_) fun _ _=>?_
  ·refine .g 3 rfl<|.bind fun x124 h7=>.st rfl (cl (CC.h h7) [0] [] [true] rfl (.p rfl<|.i<|.nil) (.p rfl (.i<|.i<|.nil) .nil) fnil (.cons (.v (.i<|.i<|.nil)) .nil) (.bool _) (.turned .nil) rfl) rfl<|.g 10 rfl<|.fi rfl rfl
  ·refine .g 12 rfl<|.st rfl (bs kD [a0.Lo,a0.Lo,a0.Hi,a0.Hi] rfl rfl) rfl<|.g 13 rfl<|.st rfl (bs kD [a1.Lo,a1.Hi,a1.Lo,a1.Hi] rfl rfl) rfl<|.g 19 rfl<|?_
   refine .cut (fun x:Int × (List AD) × (List AD)=>(r06_CDiv_j1 a2 x.1 x.2.1 x.2.2,[eP 0 0,eP 6 3,(9,some (grA kD 4 x.2.1)),(10,some (grA kD 5 x.2.2))],[(0,(.live 171 [(.int .i64 a2),(.int .i64 x.1)])),(3,(.live 37 [(.bool false),(slK (kInt .u32) []),(.int .i64 0),(.bool false),(slK (kInt .u32) []),(.int .i64 0)])),(4,(grV kD 26 x.2.1)),(5,(grV kD 26 x.2.2))])) ?_ ?_
   ·rintro ⟨y181,y182,y183⟩
    dsimp only [r06_CDiv_j1]
    refine .g 2 rfl<|?_
    refine .weak ?_ (fun a w h=>Conc.gr_still kD h 9 4 26 y182 rfl rfl)
    refine .weak ?_ (fun a w h=>Conc.gr_still kD h 10 5 26 y183 rfl rfl)
    refine .g 3 rfl<|.p0 rfl rfl fun x184 _=>.g 1 rfl<|.p0 rfl rfl fun x185 _=>.bind fun x186 h110=>.st rfl (cl (CC.h h110) [0] [] [false] rfl (.p rfl<|.a kD<|.a kD<|.nil) (.p rfl (.i<|.i<|.nil) .nil) fnil (.cons (.v (.i<|.i<|.nil)) .nil) (ren_agg (K:=kI) _) (.kept rfl .nil) rfl) rfl<|.g 4 rfl<|.fi rfl rfl
   ·intro h111
    refine .g 1 rfl<|?_
    refine .weak ?_ (fun a w h=>Conc.gr_nil kD h 9 4 26 rfl)
    refine .weak ?_ (fun a w h=>Conc.gr_nil kD h 10 5 26 rfl)
    refine .lo (fun n (x:Int × Int × (List AD) × (List AD))=>r06_CDiv_l2 a0 a1 a2 n x.1 x.2.1 x.2.2.1 x.2.2.2) (fun x=>([eP 0 0,eP 6 3,eK kD 7 [a0.Lo,a0.Lo,a0.Hi,a0.Hi],eK kD 8 [a1.Lo,a1.Hi,a1.Lo,a1.Hi],(9,some (grA kD 4 x.2.2.1)),(10,some (grA kD 5 x.2.2.2)),eI 11 x.1],[(0,(.live 171 [(.int .i64 a2),(.int .i64 x.2.1)])),(3,(.live 37 [(.bool false),(slK (kInt .u32) []),(.int .i64 0),(.bool false),(slK (kInt .u32) []),(.int .i64 0)])),(4,(grV kD 26 x.2.2.1)),(5,(grV kD 26 x.2.2.2))])) (0,x122.2,[],[]) rfl (fun hE=>jn (m:=1) [(0,0),(3,3),(4,4),(5,5)] hE (.p rfl rfl<|.p rfl rfl<|.l rfl<|.l rfl<|.g rfl (ren_gr (K:=kD) (by rfl) [])<|.g rfl (ren_gr (K:=kD) (by rfl) [])<|.i rfl<|.nil) (.v rfl (.i<|.i<|.nil)<|.v rfl (.b<|.l<|.i<|.b<|.l<|.i<|.nil)<|.cons (.refl _) (renV_gr (K:=kD) 26 [])<|.cons (.refl _) (renV_gr (K:=kD) 26 [])<|.nil) rfl) ?_
    rintro n2 ⟨y223,y224,y225,y226⟩
    try dsimp only
    rw [r06_CDiv_l2]
    refine .g 7 rfl<|?_
    refine .cd rfl (fun _ _=>?_) fun _ _=>?_
    ·refine .g 8 rfl<|.ix rfl rfl<|.g 3 rfl<|.ix rfl rfl<|.g 5 rfl<|.p0 rfl rfl fun x235 _=>.g 6 rfl<|.dn (by kernel_rfl)<|.g 5 rfl<|.ix rfl rfl<|.g 3 rfl<|.ix rfl rfl<|.g 5 rfl<|.p0 rfl rfl fun x236 _=>?_
     refine .g 6 rfl<|.dn (by kernel_rfl)<|.g 3 rfl<|?_
     refine .cut (fun x:Bool × Int=>(r06_CDiv_j3 x235 y225 x236 y226 (fun z0 z1 z2 z3=>r06_CDiv_l2 a0 a1 a2 n2 z0 z1 z2 z3) y223 x.1 x.2,[eP 0 0,eP 6 3,eK kD 7 [a0.Lo,a0.Lo,a0.Hi,a0.Hi],eK kD 8 [a1.Lo,a1.Hi,a1.Lo,a1.Hi],(9,some (grA kD 4 y225)),(10,some (grA kD 5 y226)),eI 11 y223,eP 12 1,eP 14 2,eB 92 x.1],[(0,(.live 171 [(.int .i64 a2),(.int .i64 x.2)])),(3,(.live 37 [(.bool false),(slK (kInt .u32) []),(.int .i64 0),(.bool false),(slK (kInt .u32) []),(.int .i64 0)])),(4,(grV kD 26 y225)),(5,(grV kD 26 y226)),(1,(.live 26 [(.bool (((x235.1).M).Neg)),(slK (kInt .u32) (((x235.1).M).Mag)),(.int .i64 ((x235.1).E))])),(2,(.live 26 [(.bool (((x236.1).M).Neg)),(slK (kInt .u32) (((x236.1).M).Mag)),(.int .i64 ((x236.1).E))]))])) ?_ ?_
     ·rintro ⟨y239,y240⟩
      dsimp only [r06_CDiv_j3]
      refine .g 1 rfl<|?_
      refine .cd rfl (fun _ _=>?_) fun _ _=>?_
      ·refine .g 13 rfl<|.fi rfl rfl
      ·refine .g 6 rfl<|.st rfl (bs kD [(⟨((x235.1).M),(x235.1).E⟩:AD)] rfl rfl) rfl<|.guard fun h207=>.sv (.row 6 kD.sz 0 (((y225++[(⟨((x235.1).M),(x235.1).E⟩:AD)])).length)) [(6,(rwK kD 26 (y225++[(⟨((x235.1).M),(x235.1).E⟩:AD)]))),(4,.dead)] rfl (snd_appendK_gr kD _ _ _ _ _ 4 6 y225 [(⟨((x235.1).M),(x235.1).E⟩:AD)] rfl underlying90 ze26 sb26 rfl rfl rfl rfl rfl rfl rfl h207) rfl<|.g 6 rfl<|.st rfl (bs kD [(⟨((x236.1).M),(x236.1).E⟩:AD)] rfl rfl) rfl<|.guard fun h208=>.sv (.row 7 kD.sz 0 (((y226++[(⟨((x236.1).M),(x236.1).E⟩:AD)])).length)) [(7,(rwK kD 26 (y226++[(⟨((x236.1).M),(x236.1).E⟩:AD)]))),(5,.dead)] rfl (snd_appendK_gr kD _ _ _ _ _ 5 7 y226 [(⟨((x236.1).M),(x236.1).E⟩:AD)] rfl underlying90 ze26 sb26 rfl rfl rfl rfl rfl rfl rfl h208) rfl<|.g 9 rfl<|?_
       refine .weak ?_ (fun a w h=>Conc.gr_row kD h 9 6 26 (y225++[(⟨((x235.1).M),(x235.1).E⟩:AD)]) rfl rfl (by first | omega | (simp only [List.length_append,List.length_cons,List.length_set]; omega) | simp))
       refine .weak ?_ (fun a w h=>Conc.gr_row kD h 10 7 26 (y226++[(⟨((x236.1).M),(x236.1).E⟩:AD)]) rfl rfl (by first | omega | (simp only [List.length_append,List.length_cons,List.length_set]; omega) | simp))
       exact .ao ((IntKind.i64.wrap (y223+1)),y240,(y225++[(⟨((x235.1).M),(x235.1).E⟩:AD)]),(y226++[(⟨((x236.1).M),(x236.1).E⟩:AD)])) rfl fun hE=>jn (m:=1) [(0,0),(3,3),(6,4),(7,5)] hE (.p rfl rfl<|.p rfl rfl<|.l rfl<|.l rfl<|.g rfl (ren_gr (K:=kD) (by rfl) (y225++[(⟨((x235.1).M),(x235.1).E⟩:AD)]))<|.g rfl (ren_gr (K:=kD) (by rfl) (y226++[(⟨((x236.1).M),(x236.1).E⟩:AD)]))<|.i rfl<|.nil) (.v rfl (.i<|.i<|.nil)<|.v rfl (.b<|.l<|.i<|.b<|.l<|.i<|.nil)<|.cons (.refl _) (renV_gr (K:=kD) 26 (y225++[(⟨((x235.1).M),(x235.1).E⟩:AD)]))<|.cons (.refl _) (renV_gr (K:=kD) 26 (y226++[(⟨((x236.1).M),(x236.1).E⟩:AD)]))<|.nil) rfl
     ·intro h209
      refine .g 3 rfl<|.bind fun x241 h210=>.st rfl (cl (CC.h h210) [0] [] [true] rfl (.p rfl<|.i<|.nil) (.p rfl (.i<|.i<|.nil) .nil) fnil (.cons (.v (.i<|.i<|.nil)) .nil) (.bool _) (.turned .nil) rfl) rfl<|.g 2 rfl<|?_
      refine .gd 87 rfl (fun _=>?_) fun _=>?_
      ·refine .g 6 rfl<|.jo (h209 (true,x241.2)) rfl fun hE=>jn (m:=1) [(0,0),(3,3),(4,4),(5,5),(1,1),(2,2)] hE (.p rfl rfl<|.p rfl rfl<|.l rfl<|.l rfl<|.g rfl (ren_gr (K:=kD) (by rfl) y225)<|.g rfl (ren_gr (K:=kD) (by rfl) y226)<|.i rfl<|.p rfl rfl<|.p rfl rfl<|.b rfl<|.nil) (.v rfl (.i<|.i<|.nil)<|.v rfl (.b<|.l<|.i<|.b<|.l<|.i<|.nil)<|.cons (.refl _) (renV_gr (K:=kD) 26 y225)<|.cons (.refl _) (renV_gr (K:=kD) 26 y226)<|.v rfl (.b<|.l<|.i<|.nil)<|.v rfl (.b<|.l<|.i<|.nil)<|.nil) rfl
      ·refine .g 2 rfl<|.bind fun x242 h212=>.st rfl (cl (CC.h h212) [0] [] [true] rfl (.p rfl<|.i<|.nil) (.p rfl (.i<|.i<|.nil) .nil) fnil (.cons (.v (.i<|.i<|.nil)) .nil) (.bool _) (.turned .nil) rfl) rfl<|.g 3 rfl<|.jo (h209 ((!x242.1),x242.2)) rfl fun hE=>jn (m:=1) [(0,0),(3,3),(4,4),(5,5),(1,1),(2,2)] hE (.p rfl rfl<|.p rfl rfl<|.l rfl<|.l rfl<|.g rfl (ren_gr (K:=kD) (by rfl) y225)<|.g rfl (ren_gr (K:=kD) (by rfl) y226)<|.i rfl<|.p rfl rfl<|.p rfl rfl<|.b rfl<|.nil) (.v rfl (.i<|.i<|.nil)<|.v rfl (.b<|.l<|.i<|.b<|.l<|.i<|.nil)<|.cons (.refl _) (renV_gr (K:=kD) 26 y225)<|.cons (.refl _) (renV_gr (K:=kD) 26 y226)<|.v rfl (.b<|.l<|.i<|.nil)<|.v rfl (.b<|.l<|.i<|.nil)<|.nil) rfl
    ·refine .g 4 rfl<|.jo (h111 (y224,y225,y226)) rfl fun hE=>jn (m:=1) [(0,0),(3,3),(4,4),(5,5)] hE (.p rfl rfl<|.p rfl rfl<|.g rfl (ren_gr (K:=kD) (by rfl) y225)<|.g rfl (ren_gr (K:=kD) (by rfl) y226)<|.nil) (.v rfl (.i<|.i<|.nil)<|.v rfl (.b<|.l<|.i<|.b<|.l<|.i<|.nil)<|.cons (.refl _) (renV_gr (K:=kD) 26 y225)<|.cons (.refl _) (renV_gr (K:=kD) 26 y226)<|.nil) rfl
instance r04_Add_i (a0:ApiInt) (a1:ApiInt):PC (r04_Add a0 a1) Tryz.prog 263 [(.agg (kN.enc a0)),(.agg (kN.enc a1))] (fun r=>(.agg (kN.enc (r)))):=pc func263 (by kernel_rfl) rfl fun E=>by
 unfold r04_Add
 refine .g 17 rfl<|?_
 refine .cd rfl (fun _ _=>?_) fun _ _=>?_
 ·refine .g 8 rfl<|.p0 rfl rfl fun x7 _=>.p0 rfl rfl fun x8 _=>.g 1 rfl<|.dn (by kernel_rfl)<|.g 3 rfl<|.fi rfl rfl
 ·refine .g 8 rfl<|.p0 rfl rfl fun x9 _=>.g 13 rfl<|?_
  refine .cd rfl (fun _ _=>?_) fun _ _=>?_
  ·refine .g 5 rfl<|.p0 rfl rfl fun x10 _=>.g 5 rfl<|.fi rfl rfl
  ·refine .g 8 rfl<|.p0 rfl rfl fun x11 _=>.g 11 rfl<|.p0 rfl rfl fun x12 _=>.g 4 rfl<|.fi rfl rfl
instance r05_Add_i (a0:AD) (a1:AD):PC (r05_Add a0 a1) Tryz.prog 255 [(.agg (kD.enc a0)),(.agg (kD.enc a1))] (fun r=>(.tup [(.agg (kD.enc (⟨((r.1).M),(r.1).E⟩:AD))),(.int .i64 r.2)])):=pc func255 (by kernel_rfl) rfl fun E=>by
 unfold r05_Add
 refine .g 11 rfl<|.p0 rfl rfl fun x8 _=>.g 6 rfl<|.p0 rfl rfl fun x9 _=>.g 5 rfl<|?_
 refine .cut (fun x:Bool=>(r05_Add_j1 a0 a1 x,[eP 2 0,eP 3 1,eP 4 2,eB 20 x],[(0,(.live 26 [(.bool a0.M.Neg),(slK (kInt .u32) a0.M.Mag),(.int .i64 a0.E)])),(1,(.live 26 [(.bool a1.M.Neg),(slK (kInt .u32) a1.M.Mag),(.int .i64 a1.E)])),(2,(.live 26 [(.bool false),(slK (kInt .u32) []),(.int .i64 0)]))])) ?_ ?_
 ·rintro y10
  dsimp only [r05_Add_j1]
  refine .g 1 rfl<|?_
  refine .cd rfl (fun _ _=>?_) fun _ _=>?_
  ·refine .g 9 rfl<|.fi rfl rfl
  ·refine .g 6 rfl<|.p0 rfl rfl fun x11 _=>.g 15 rfl<|.p0 rfl rfl fun x12 _=>.g 1 rfl<|.p0 rfl rfl fun x13 _=>.p0 rfl rfl fun x14 _=>.g 7 rfl<|.fi rfl rfl
 ·intro h10
  refine .g 4 rfl<|?_
  refine .gd 17 rfl (fun _=>?_) fun _=>?_
  ·refine .g 4 rfl<|.jw (h10 true) [(0,0),(1,1),(2,2)] rfl
  ·refine .g 4 rfl<|.jw (h10 (!x9)) [(0,0),(1,1),(2,2)] rfl
instance r06_Cadd_i (a0:AD) (a1:AD) (a2:Int) (a3:Int):CC (r06_Cadd a0 a1 a2 a3) Tryz.prog 230 [(.ptr 0 0),(.agg (kD.enc a0)),(.agg (kD.enc a1))] [(.live 171 [(.int .i64 a2),(.int .i64 a3)])] (fun r=>(.agg (kD.enc (⟨((r.1).M),(r.1).E⟩:AD)))) (fun r=>[(.live 171 [(.int .i64 a2),(.int .i64 r.2)])]):=cc func230 (by kernel_rfl) rfl fun E=>by
 unfold r06_Cadd
 refine .g 17 rfl<|?_
 refine .cd rfl (fun _ _=>?_) fun _ _=>?_
 ·refine .g 8 rfl<|.fi rfl rfl
 ·refine .g 6 rfl<|.p0 rfl rfl fun x3 _=>.g 12 rfl<|.bind fun x4 h4=>.st rfl (cl (CC.h h4) [0] [] [true] rfl (.p rfl<|.i<|.nil) (.p rfl (.i<|.i<|.nil) .nil) fnil (.cons (.v (.i<|.i<|.nil)) .nil) (.bool _) (.turned .nil) rfl) rfl<|.g 9 rfl<|.fi rfl rfl
instance r06_CAdd_i (a0:AI) (a1:AI) (a2:Int) (a3:Int):CC (r06_CAdd a0 a1 a2 a3) Tryz.prog 168 [(.ptr 0 0),(.agg (kI.enc a0)),(.agg (kI.enc a1))] [(.live 171 [(.int .i64 a2),(.int .i64 a3)])] (fun r=>(.agg (kI.enc (⟨⟨(((r.1).Lo).M),((r.1).Lo).E⟩,⟨(((r.1).Hi).M),((r.1).Hi).E⟩⟩:AI)))) (fun r=>[(.live 171 [(.int .i64 a2),(.int .i64 r.2)])]):=cc func168 (by kernel_rfl) rfl fun E=>by
 unfold r06_CAdd
 refine .g 13 rfl<|.st rfl (bs kI [a0,a1] rfl rfl) rfl<|.bind fun x7 h1=>.st rfl (cl (CC.h h1) [0] [] [true] rfl (.p rfl<|.l<|.nil) (.p rfl (.i<|.i<|.nil) .nil) fnil (.cons (.v (.i<|.i<|.nil)) .nil) (.bool _) (.turned .nil) rfl) rfl<|.g 3 rfl<|?_
 refine .cd rfl (fun _ _=>?_) fun _ _=>?_
 ·refine .g 8 rfl<|.fi rfl rfl
 ·refine .g 10 rfl<|.bind fun x8 h4=>.st rfl (cl (CC.h h4) [0] [] [true] rfl (.p rfl<|.a kD<|.a kD<|.nil) (.p rfl (.i<|.i<|.nil) .nil) fnil (.cons (.v (.i<|.i<|.nil)) .nil) (ren_agg (K:=kD) _) (.turned .nil) rfl) rfl<|.bind fun x9 h5=>.st rfl (cl (CC.h h5) [0] [] [true] rfl (.p rfl<|.a kD<|.b<|.nil) (.p rfl (.i<|.i<|.nil) .nil) fnil (.cons (.v (.i<|.i<|.nil)) .nil) (ren_agg (K:=kD) _) (.turned .nil) rfl) rfl<|.g 12 rfl<|.bind fun x10 h6=>.st rfl (cl (CC.h h6) [0] [] [true] rfl (.p rfl<|.a kD<|.a kD<|.nil) (.p rfl (.i<|.i<|.nil) .nil) fnil (.cons (.v (.i<|.i<|.nil)) .nil) (ren_agg (K:=kD) _) (.turned .nil) rfl) rfl<|.bind fun x11 h7=>.st rfl (cl (CC.h h7) [0] [] [true] rfl (.p rfl<|.a kD<|.b<|.nil) (.p rfl (.i<|.i<|.nil) .nil) fnil (.cons (.v (.i<|.i<|.nil)) .nil) (ren_agg (K:=kD) _) (.turned .nil) rfl) rfl<|.g 9 rfl<|.bind fun x12 h8=>.st rfl (cl (CC.h h8) [0] [] [false] rfl (.p rfl<|.a kD<|.a kD<|.nil) (.p rfl (.i<|.i<|.nil) .nil) fnil (.cons (.v (.i<|.i<|.nil)) .nil) (ren_agg (K:=kI) _) (.kept rfl .nil) rfl) rfl<|.g 4 rfl<|.fi rfl rfl
instance r06_CWide_i (a0:AI) (a1:AD) (a2:Int) (a3:Int):CC (r06_CWide a0 a1 a2 a3) Tryz.prog 169 [(.ptr 0 0),(.agg (kI.enc a0)),(.agg (kD.enc a1))] [(.live 171 [(.int .i64 a2),(.int .i64 a3)])] (fun r=>(.agg (kI.enc (⟨⟨(((r.1).Lo).M),((r.1).Lo).E⟩,⟨(((r.1).Hi).M),((r.1).Hi).E⟩⟩:AI)))) (fun r=>[(.live 171 [(.int .i64 a2),(.int .i64 r.2)])]):=cc func169 (by kernel_rfl) rfl fun E=>by
 unfold r06_CWide
 refine .g 15 rfl<|.st rfl (bs kI [a0,(⟨⟨⟨false,[]⟩,0⟩,a1⟩:AI)] rfl rfl) rfl<|.bind fun x8 h1=>.st rfl (cl (CC.h h1) [0] [] [true] rfl (.p rfl<|.l<|.nil) (.p rfl (.i<|.i<|.nil) .nil) fnil (.cons (.v (.i<|.i<|.nil)) .nil) (.bool _) (.turned .nil) rfl) rfl<|.g 3 rfl<|?_
 refine .cd rfl (fun _ _=>?_) fun _ _=>?_
 ·refine .g 8 rfl<|.fi rfl rfl
 ·refine .g 9 rfl<|.p0 rfl rfl fun x9 _=>.bind fun x10 h5=>.st rfl (cl (CC.h h5) [0] [] [true] rfl (.p rfl<|.a kD<|.a kD<|.nil) (.p rfl (.i<|.i<|.nil) .nil) fnil (.cons (.v (.i<|.i<|.nil)) .nil) (ren_agg (K:=kD) _) (.turned .nil) rfl) rfl<|.bind fun x11 h6=>.st rfl (cl (CC.h h6) [0] [] [true] rfl (.p rfl<|.a kD<|.b<|.nil) (.p rfl (.i<|.i<|.nil) .nil) fnil (.cons (.v (.i<|.i<|.nil)) .nil) (ren_agg (K:=kD) _) (.turned .nil) rfl) rfl<|.g 2 rfl<|.dn (by kernel_rfl)<|.g 8 rfl<|.bind fun x12 h7=>.st rfl (cl (CC.h h7) [0] [] [true] rfl (.p rfl<|.a kD<|.a kD<|.nil) (.p rfl (.i<|.i<|.nil) .nil) fnil (.cons (.v (.i<|.i<|.nil)) .nil) (ren_agg (K:=kD) _) (.turned .nil) rfl) rfl<|.bind fun x13 h8=>.st rfl (cl (CC.h h8) [0] [] [true] rfl (.p rfl<|.a kD<|.b<|.nil) (.p rfl (.i<|.i<|.nil) .nil) fnil (.cons (.v (.i<|.i<|.nil)) .nil) (ren_agg (K:=kD) _) (.turned .nil) rfl) rfl<|.g 9 rfl<|?_
  refine .bind fun x14 h9=>.st rfl (cl (CC.h h9) [0] [] [false] rfl (.p rfl<|.a kD<|.a kD<|.nil) (.p rfl (.i<|.i<|.nil) .nil) fnil (.cons (.v (.i<|.i<|.nil)) .nil) (ren_agg (K:=kI) _) (.kept rfl .nil) rfl) rfl<|.g 4 rfl<|.fi rfl rfl
instance r07_ends_i (a0:AI) (a1:Int) (a2:Int):CC (r07_ends a0 a1 a2) Tryz.prog 249 [(.ptr 0 0),(.agg (kI.enc a0))] [(.live 171 [(.int .i64 a1),(.int .i64 a2)])] (fun r=>(.agg (kI.enc (⟨⟨(((r.1).Lo).M),((r.1).Lo).E⟩,⟨(((r.1).Hi).M),((r.1).Hi).E⟩⟩:AI)))) (fun r=>[(.live 171 [(.int .i64 a1),(.int .i64 r.2)])]):=cc func249 (by kernel_rfl) rfl fun E=>by
 unfold r07_ends
 refine .g 15 rfl<|.p0 rfl rfl fun x3 _=>.bind fun x4 h2=>.st rfl (cl (CC.h h2) [0] [] [true] rfl (.p rfl<|.a kI<|.a kD<|.nil) (.p rfl (.i<|.i<|.nil) .nil) fnil (.cons (.v (.i<|.i<|.nil)) .nil) (ren_agg (K:=kI) _) (.turned .nil) rfl) rfl<|.g 1 rfl<|.dn (by kernel_rfl)<|.g 2 rfl<|.fi rfl rfl
instance r07_Exp_i (a0:AI) (a1:Int) (a2:Int):CC (r07_Exp a0 a1 a2) Tryz.prog 222 [(.ptr 0 0),(.agg (kI.enc a0))] [(.live 171 [(.int .i64 a1),(.int .i64 a2)])] (fun r=>(.agg (kI.enc (⟨⟨(((r.1).Lo).M),((r.1).Lo).E⟩,⟨(((r.1).Hi).M),((r.1).Hi).E⟩⟩:AI)))) (fun r=>[(.live 171 [(.int .i64 a1),(.int .i64 r.2)])]):=cc func222 (by kernel_rfl) rfl fun E=>by
 unfold r07_Exp
 refine .g 11 rfl<|.bind fun x122 h1=>.st rfl (cl (CC.h h1) [0] [] [true] rfl (.p rfl<|.a kI<|.i<|.nil) (.p rfl (.i<|.i<|.nil) .nil) fnil (.cons (.v (.i<|.i<|.nil)) .nil) (.bool _) (.turned .nil) rfl) rfl<|.g 3 rfl<|?_
 refine .cd rfl (fun _ _=>?_) fun _ _=>?_
 ·refine .g 8 rfl<|.fi rfl rfl
 ·refine .g 5 rfl<|.bind fun x123 h4=>.st rfl (cl (CC.h h4) [0] [] [true] rfl (.p rfl<|.i<|.nil) (.p rfl (.i<|.i<|.nil) .nil) fnil (.cons (.v (.i<|.i<|.nil)) .nil) (ren_agg (K:=kI) _) (.turned .nil) rfl) rfl<|.g 7 rfl<|.bind fun x124 h5=>.st rfl (cl (CC.h h5) [0] [] [true] rfl (.p rfl<|.i<|.nil) (.p rfl (.i<|.i<|.nil) .nil) fnil (.cons (.v (.i<|.i<|.nil)) .nil) (ren_agg (K:=kI) _) (.turned .nil) rfl) rfl<|.g 10 rfl<|?_
  refine .cut (fun x:Int × Bool × (List Int) × Int × Bool × (List Int) × Int=>(r07_Exp_j1 a1 x.1 x.2.1 x.2.2.1 x.2.2.2.1 x.2.2.2.2.1 x.2.2.2.2.2.1 x.2.2.2.2.2.2,[eP 0 0,eP 4 2,eP 5 3],[(0,(.live 171 [(.int .i64 a1),(.int .i64 x.1)])),(2,(.live 37 [(.bool false),(slK (kInt .u32) []),(.int .i64 0),(.bool false),(slK (kInt .u32) []),(.int .i64 0)])),(3,(.live 37 [(.bool x.2.1),(slK (kInt .u32) x.2.2.1),(.int .i64 x.2.2.2.1),(.bool x.2.2.2.2.1),(slK (kInt .u32) x.2.2.2.2.2.1),(.int .i64 x.2.2.2.2.2.2)]))])) ?_ ?_
  ·rintro ⟨y180,y181,y182,y183,y184,y185,y186⟩
   dsimp only [r07_Exp_j1]
   refine .g 5 rfl<|.bind fun x187 h39=>.st rfl (cl (CC.h h39) [0] [] [true] rfl (.p rfl<|.a kI<|.nil) (.p rfl (.i<|.i<|.nil) .nil) fnil (.cons (.v (.i<|.i<|.nil)) .nil) (ren_agg (K:=kI) _) (.turned .nil) rfl) rfl<|.g 4 rfl<|.fi rfl rfl
  ·intro h40
   refine .g 1 rfl<|?_
   refine .lp (fun n (x:Int × Int × Bool × (List Int) × Int × Bool × (List Int) × Int × Bool × (List Int) × Int × Bool × (List Int) × Int)=>r07_Exp_l2 a1 a0 n x.1 x.2.1 x.2.2.1 x.2.2.2.1 x.2.2.2.2.1 x.2.2.2.2.2.1 x.2.2.2.2.2.2.1 x.2.2.2.2.2.2.2.1 x.2.2.2.2.2.2.2.2.1 x.2.2.2.2.2.2.2.2.2.1 x.2.2.2.2.2.2.2.2.2.2.1 x.2.2.2.2.2.2.2.2.2.2.2.1 x.2.2.2.2.2.2.2.2.2.2.2.2.1 x.2.2.2.2.2.2.2.2.2.2.2.2.2) (fun x=>([eP 0 0,eP 3 1,eP 4 2,eP 5 3,eP 6 4,eI 7 x.1],[(0,(.live 171 [(.int .i64 a1),(.int .i64 x.2.1)])),(1,(.live 37 [(.bool a0.Lo.M.Neg),(slK (kInt .u32) a0.Lo.M.Mag),(.int .i64 a0.Lo.E),(.bool a0.Hi.M.Neg),(slK (kInt .u32) a0.Hi.M.Mag),(.int .i64 a0.Hi.E)])),(2,(.live 37 [(.bool false),(slK (kInt .u32) []),(.int .i64 0),(.bool false),(slK (kInt .u32) []),(.int .i64 0)])),(3,(.live 37 [(.bool x.2.2.1),(slK (kInt .u32) x.2.2.2.1),(.int .i64 x.2.2.2.2.1),(.bool x.2.2.2.2.2.1),(slK (kInt .u32) x.2.2.2.2.2.2.1),(.int .i64 x.2.2.2.2.2.2.2.1)])),(4,(.live 37 [(.bool x.2.2.2.2.2.2.2.2.1),(slK (kInt .u32) x.2.2.2.2.2.2.2.2.2.1),(.int .i64 x.2.2.2.2.2.2.2.2.2.2.1),(.bool x.2.2.2.2.2.2.2.2.2.2.2.1),(slK (kInt .u32) x.2.2.2.2.2.2.2.2.2.2.2.2.1),(.int .i64 x.2.2.2.2.2.2.2.2.2.2.2.2.2)]))])) (1,x124.2,(((x123.1).Lo).M).Neg,(((x123.1).Lo).M).Mag,((x123.1).Lo).E,(((x123.1).Hi).M).Neg,(((x123.1).Hi).M).Mag,((x123.1).Hi).E,(((x124.1).Lo).M).Neg,(((x124.1).Lo).M).Mag,((x124.1).Lo).E,(((x124.1).Hi).M).Neg,(((x124.1).Hi).M).Mag,((x124.1).Hi).E) [(0,0),(1,1),(2,2),(3,3),(4,4)] rfl ?_
   rintro n2 ⟨y220,y221,y222,y223,y224,y225,y226,y227,y228,y229,y230,y231,y232,y233⟩
   try dsimp only
   rw [r07_Exp_l2]
   refine .g 8 rfl<|.p0 rfl rfl fun x234 _=>.g 3 rfl<|?_
   refine .cd rfl (fun _ _=>?_) fun _ _=>?_
   ·refine .g 10 rfl<|.bind fun x239 h70=>.st rfl (cl (CC.h h70) [0] [] [true] rfl (.p rfl<|.a kI<|.a kI<|.nil) (.p rfl (.i<|.i<|.nil) .nil) fnil (.cons (.v (.i<|.i<|.nil)) .nil) (ren_agg (K:=kI) _) (.turned .nil) rfl) rfl<|.g 2 rfl<|.bind fun x240 h71=>.st rfl (cl (CC.h h71) [0] [] [true] rfl (.p rfl<|.i<|.nil) (.p rfl (.i<|.i<|.nil) .nil) fnil (.cons (.v (.i<|.i<|.nil)) .nil) (ren_agg (K:=kI) _) (.turned .nil) rfl) rfl<|.bind fun x241 h72=>.st rfl (cl (CC.h h72) [0] [] [true] rfl (.p rfl<|.a kI<|.a kI<|.nil) (.p rfl (.i<|.i<|.nil) .nil) fnil (.cons (.v (.i<|.i<|.nil)) .nil) (ren_agg (K:=kI) _) (.turned .nil) rfl) rfl<|.g 7 rfl<|.bind fun x242 h73=>.st rfl (cl (CC.h h73) [0] [] [true] rfl (.p rfl<|.a kI<|.a kI<|.nil) (.p rfl (.i<|.i<|.nil) .nil) fnil (.cons (.v (.i<|.i<|.nil)) .nil) (ren_agg (K:=kI) _) (.turned .nil) rfl) rfl<|.g 9 rfl<|.ag ((IntKind.i64.wrap (y220+1)),x242.2,(((x242.1).Lo).M).Neg,(((x242.1).Lo).M).Mag,((x242.1).Lo).E,(((x242.1).Hi).M).Neg,(((x242.1).Hi).M).Mag,((x242.1).Hi).E,(((x241.1).Lo).M).Neg,(((x241.1).Lo).M).Mag,((x241.1).Lo).E,(((x241.1).Hi).M).Neg,(((x241.1).Hi).M).Mag,((x241.1).Hi).E) [(0,0),(1,1),(2,2),(3,3),(4,4)] rfl
   ·refine .g 4 rfl<|.jw (h40 (y221,y222,y223,y224,y225,y226,y227)) [(0,0),(2,2),(3,3)] rfl
instance r06_COut_i (a0:AI) (a1:Int) (a2:Int):CC (r06_COut a0 a1 a2) Tryz.prog 172 [(.ptr 0 0),(.agg (kI.enc a0))] [(.live 171 [(.int .i64 a1),(.int .i64 a2)])] (fun r=>(.agg (kI.enc (⟨⟨(((r.1).Lo).M),((r.1).Lo).E⟩,⟨(((r.1).Hi).M),((r.1).Hi).E⟩⟩:AI)))) (fun r=>[(.live 171 [(.int .i64 a1),(.int .i64 r.2)])]):=cc func172 (by kernel_rfl) rfl fun E=>by
 unfold r06_COut
 refine .g 11 rfl<|.st rfl (bs kI [a0] rfl rfl) rfl<|.bind fun x5 h1=>.st rfl (cl (CC.h h1) [0] [] [true] rfl (.p rfl<|.l<|.nil) (.p rfl (.i<|.i<|.nil) .nil) fnil (.cons (.v (.i<|.i<|.nil)) .nil) (.bool _) (.turned .nil) rfl) rfl<|.g 3 rfl<|?_
 refine .cd rfl (fun _ _=>?_) fun _ _=>?_
 ·refine .g 8 rfl<|.fi rfl rfl
 ·refine .g 7 rfl<|.bind fun x6 h4=>.st rfl (cl (CC.h h4) [0] [] [true] rfl (.p rfl<|.a kD<|.b<|.nil) (.p rfl (.i<|.i<|.nil) .nil) fnil (.cons (.v (.i<|.i<|.nil)) .nil) (ren_agg (K:=kD) _) (.turned .nil) rfl) rfl<|.g 9 rfl<|.bind fun x7 h5=>.st rfl (cl (CC.h h5) [0] [] [true] rfl (.p rfl<|.a kD<|.b<|.nil) (.p rfl (.i<|.i<|.nil) .nil) fnil (.cons (.v (.i<|.i<|.nil)) .nil) (ren_agg (K:=kD) _) (.turned .nil) rfl) rfl<|.g 9 rfl<|.bind fun x8 h6=>.st rfl (cl (CC.h h6) [0] [] [false] rfl (.p rfl<|.a kD<|.a kD<|.nil) (.p rfl (.i<|.i<|.nil) .nil) fnil (.cons (.v (.i<|.i<|.nil)) .nil) (ren_agg (K:=kI) _) (.kept rfl .nil) rfl) rfl<|.g 4 rfl<|.fi rfl rfl
instance r09_Ends_i (a0:AI) (a1:Int) (a2:Int) (a3:Int):CC (r09_Ends a0 a1 a2 a3) Tryz.prog 101 [(.ptr 0 0),(.agg (kI.enc a0)),(.int .i64 a1)] [(.live 171 [(.int .i64 a2),(.int .i64 a3)])] (fun r=>(.tup [(.agg (kI.enc (⟨⟨(((r.1).Lo).M),((r.1).Lo).E⟩,⟨(((r.1).Hi).M),((r.1).Hi).E⟩⟩:AI))),(.int .i64 r.2)])) (fun r=>[(.live 171 [(.int .i64 a2),(.int .i64 a3)])]):=cc func101 (by kernel_rfl) rfl fun E=>by
 unfold r09_Ends
 refine .g 17 rfl<|?_
 refine .cd rfl (fun _ _=>?_) fun _ _=>?_
 ·refine .g 9 rfl<|.dn (by kernel_rfl)<|.g 3 rfl<|.fi rfl rfl
 ·refine .g 5 rfl<|.bind fun x5 h3=>?_
  rcases x5 with x6 | x7
  ·dsimp only
   refine .st rfl (cl (r06_New_k_0 h3) [] [3] [true] rfl (.i<|.nil) .nil (fresh_cons rfl fnil) (.cons .dead .nil) .nilptr (.turned .nil) rfl) rfl<|.g 7 rfl<|.no
  ·dsimp only
   refine .st rfl (cl (r06_New_k_1 h3) [] [3] [true] rfl (.i<|.nil) .nil (fresh_cons rfl fnil) (.cons (.v (.i<|.i<|.nil)) .nil) (.ptr _ _ _ rfl) (.turned .nil) rfl) rfl<|.g 7 rfl<|.bind fun x8 h4=>.st rfl (cl (CC.h h4) [3] [] [true] rfl (.p rfl<|.a kI<|.nil) (.p rfl (.i<|.i<|.nil) .nil) fnil (.cons (.v (.i<|.i<|.nil)) .nil) (ren_agg (K:=kI) _) (.turned .nil) rfl) rfl<|.g 13 rfl<|.dn (by kernel_rfl)<|.g 2 rfl<|.fi rfl rfl
instance r09_Exp_i (a0:AD) (a1:Int):PC (r09_Exp a0 a1) Tryz.prog 163 [(.agg (kD.enc a0)),(.int .i64 a1)] (fun r=>(.tup [(.agg (kI.enc (⟨⟨(((r.1).Lo).M),((r.1).Lo).E⟩,⟨(((r.1).Hi).M),((r.1).Hi).E⟩⟩:AI))),(.int .i64 r.2)])):=pc func163 (by kernel_rfl) rfl fun E=>by
 unfold r09_Exp
 refine .g 12 rfl<|.p0 rfl rfl fun x63 _=>.g 3 rfl<|?_
 refine .cd rfl (fun _ _=>?_) fun _ _=>?_
 ·refine .g 9 rfl<|.fi rfl rfl
 ·refine .g 5 rfl<|.p0 rfl rfl fun x64 _=>.g 9 rfl<|?_
  refine .cut (fun x:Bool=>(r09_Exp_j1 x64 a1 a0 x,[eI 1 a1,eP 2 0,eP 4 1,eI 6 x64.1,eB 7 x64.2,eB 26 x],[(0,(.live 26 [(.bool a0.M.Neg),(slK (kInt .u32) a0.M.Mag),(.int .i64 a0.E)])),(1,(.live 37 [(.bool false),(slK (kInt .u32) []),(.int .i64 0),(.bool false),(slK (kInt .u32) []),(.int .i64 0)]))])) ?_ ?_
  ·rintro y65
   dsimp only [r09_Exp_j1]
   refine .g 1 rfl<|?_
   refine .cd rfl (fun _ _=>?_) fun _ _=>?_
   ·refine .g 9 rfl<|.fi rfl rfl
   ·refine .g 13 rfl<|?_
    refine .cut (fun x:Int=>(r09_Exp_j2 a1 a0 x,[eI 1 a1,eP 2 0,eP 4 1,eI 8 x],[(0,(.live 26 [(.bool a0.M.Neg),(slK (kInt .u32) a0.M.Mag),(.int .i64 a0.E)])),(1,(.live 37 [(.bool false),(slK (kInt .u32) []),(.int .i64 0),(.bool false),(slK (kInt .u32) []),(.int .i64 0)]))])) ?_ ?_
    ·rintro y66
     dsimp only [r09_Exp_j2]
     refine .g 5 rfl<|.bind fun x67 h10=>?_
     rcases x67 with x68 | x69
     ·dsimp only
      refine .st rfl (cl (r06_New_k_0 h10) [] [2] [true] rfl (.i<|.nil) .nil (fresh_cons rfl fnil) (.cons .dead .nil) .nilptr (.turned .nil) rfl) rfl<|.g 9 rfl<|.no
     ·dsimp only
      refine .st rfl (cl (r06_New_k_1 h10) [] [2] [true] rfl (.i<|.nil) .nil (fresh_cons rfl fnil) (.cons (.v (.i<|.i<|.nil)) .nil) (.ptr _ _ _ rfl) (.turned .nil) rfl) rfl<|.g 9 rfl<|.bind fun x70 h11=>.st rfl (cl (CC.h h11) [2] [] [true] rfl (.p rfl<|.a kD<|.nil) (.p rfl (.i<|.i<|.nil) .nil) fnil (.cons (.v (.i<|.i<|.nil)) .nil) (ren_agg (K:=kI) _) (.turned .nil) rfl) rfl<|.g 2 rfl<|.bind fun x71 h12=>.st rfl (cl (CC.h h12) [2] [] [true] rfl (.p rfl<|.a kI<|.i<|.nil) (.p rfl (.i<|.i<|.nil) .nil) fnil (.cons (.v (.i<|.i<|.nil)) .nil) (ren_agg (K:=kI) _) (.turned .nil) rfl) rfl<|.bind fun x72 h13=>.st rfl (cl (CC.h h13) [2] [] [true] rfl (.p rfl<|.a kI<|.nil) (.p rfl (.i<|.i<|.nil) .nil) fnil (.cons (.v (.i<|.i<|.nil)) .nil) (ren_agg (K:=kI) _) (.turned .nil) rfl) rfl<|.g 10 rfl<|?_
      refine .cut (fun x:Int × Bool × (List Int) × Int × Bool × (List Int) × Int=>(r09_Exp_j3 a1 x69 x.1 x.2.1 x.2.2.1 x.2.2.2.1 x.2.2.2.2.1 x.2.2.2.2.2.1 x.2.2.2.2.2.2,[eI 1 a1,eP 4 1,eP 9 2,eP 10 3],[(1,(.live 37 [(.bool false),(slK (kInt .u32) []),(.int .i64 0),(.bool false),(slK (kInt .u32) []),(.int .i64 0)])),(2,(.live 171 [(.int .i64 x69.1),(.int .i64 x.1)])),(3,(.live 37 [(.bool x.2.1),(slK (kInt .u32) x.2.2.1),(.int .i64 x.2.2.2.1),(.bool x.2.2.2.2.1),(slK (kInt .u32) x.2.2.2.2.2.1),(.int .i64 x.2.2.2.2.2.2)]))])) ?_ ?_
      ·rintro ⟨y95,y96,y97,y98,y99,y100,y101⟩
       dsimp only [r09_Exp_j3]
       refine .g 6 rfl<|.bind fun x102 h26=>.st rfl (cl (CC.h h26) [2] [] [false] rfl (.p rfl<|.a kI<|.i<|.nil) (.p rfl (.i<|.i<|.nil) .nil) fnil (.cons (.v (.i<|.i<|.nil)) .nil) (ren_tupL (.a kI<|.i<|.nil)) (.kept rfl .nil) rfl) rfl<|.g 7 rfl<|.fi rfl rfl
      ·intro h27
       refine .g 1 rfl<|?_
       refine .lp (fun n (x:Int × Int × Bool × (List Int) × Int × Bool × (List Int) × Int)=>r09_Exp_l4 y66 x69 a1 n x.1 x.2.1 x.2.2.1 x.2.2.2.1 x.2.2.2.2.1 x.2.2.2.2.2.1 x.2.2.2.2.2.2.1 x.2.2.2.2.2.2.2) (fun x=>([eI 1 a1,eP 4 1,eI 8 y66,eP 9 2,eP 10 3,eI 11 x.1],[(1,(.live 37 [(.bool false),(slK (kInt .u32) []),(.int .i64 0),(.bool false),(slK (kInt .u32) []),(.int .i64 0)])),(2,(.live 171 [(.int .i64 x69.1),(.int .i64 x.2.1)])),(3,(.live 37 [(.bool x.2.2.1),(slK (kInt .u32) x.2.2.2.1),(.int .i64 x.2.2.2.2.1),(.bool x.2.2.2.2.2.1),(slK (kInt .u32) x.2.2.2.2.2.2.1),(.int .i64 x.2.2.2.2.2.2.2)]))])) (0,x72.2,(((x72.1).Lo).M).Neg,(((x72.1).Lo).M).Mag,((x72.1).Lo).E,(((x72.1).Hi).M).Neg,(((x72.1).Hi).M).Mag,((x72.1).Hi).E) [(1,1),(2,2),(3,3)] rfl ?_
       rintro n4 ⟨y115,y116,y117,y118,y119,y120,y121,y122⟩
       try dsimp only
       rw [r09_Exp_l4]
       refine .g 8 rfl<|?_
       refine .cd rfl (fun _ _=>?_) fun _ _=>?_
       ·refine .g 8 rfl<|.bind fun x124 h39=>.st rfl (cl (CC.h h39) [2] [] [true] rfl (.p rfl<|.a kI<|.a kI<|.nil) (.p rfl (.i<|.i<|.nil) .nil) fnil (.cons (.v (.i<|.i<|.nil)) .nil) (ren_agg (K:=kI) _) (.turned .nil) rfl) rfl<|.g 9 rfl<|.ag ((IntKind.i64.wrap (y115+1)),x124.2,(((x124.1).Lo).M).Neg,(((x124.1).Lo).M).Mag,((x124.1).Lo).E,(((x124.1).Hi).M).Neg,(((x124.1).Hi).M).Mag,((x124.1).Hi).E) [(1,1),(2,2),(3,3)] rfl
       ·refine .g 4 rfl<|.jw (h27 (y116,y117,y118,y119,y120,y121,y122)) [(1,1),(2,2),(3,3)] rfl
    ·intro h40
     refine .cd rfl (fun _ _=>?_) fun _ _=>?_
     ·refine .g 6 rfl<|.jw (h40 (mx (IntKind.i64.wrap (x64.1+3)) 0)) [(0,0),(1,1)] rfl
     ·refine .g 1 rfl<|.jw (h40 0) [(0,0),(1,1)] rfl
  ·intro h43
   refine .g 3 rfl<|?_
   refine .gd 23 rfl (fun _=>?_) fun _=>?_
   ·refine .g 4 rfl<|.jw (h43 (decide (x64.1>11))) [(0,0),(1,1)] rfl
   ·refine .g 4 rfl<|.jw (h43 false) [(0,0),(1,1)] rfl
instance r06_CNeg_i (a0:AI) (a1:Int) (a2:Int):CC (r06_CNeg a0 a1 a2) Tryz.prog 171 [(.ptr 0 0),(.agg (kI.enc a0))] [(.live 171 [(.int .i64 a1),(.int .i64 a2)])] (fun r=>(.agg (kI.enc (⟨⟨(((r.1).Lo).M),((r.1).Lo).E⟩,⟨(((r.1).Hi).M),((r.1).Hi).E⟩⟩:AI)))) (fun r=>[(.live 171 [(.int .i64 a1),(.int .i64 r.2)])]):=cc func171 (by kernel_rfl) rfl fun E=>by
 unfold r06_CNeg
 refine .g 11 rfl<|.st rfl (bs kI [a0] rfl rfl) rfl<|.bind fun x4 h1=>.st rfl (cl (CC.h h1) [0] [] [true] rfl (.p rfl<|.l<|.nil) (.p rfl (.i<|.i<|.nil) .nil) fnil (.cons (.v (.i<|.i<|.nil)) .nil) (.bool _) (.turned .nil) rfl) rfl<|.g 3 rfl<|?_
 refine .cd rfl (fun _ _=>?_) fun _ _=>?_
 ·refine .g 8 rfl<|.fi rfl rfl
 ·refine .g 6 rfl<|.p0 rfl rfl fun x5 _=>.g 2 rfl<|.p0 rfl rfl fun x6 _=>.g 2 rfl<|.dn (by kernel_rfl)<|.g 2 rfl<|.fi rfl rfl
instance r07_Atan_i (a0:AI) (a1:Int) (a2:Int):CC (r07_Atan a0 a1 a2) Tryz.prog 235 [(.ptr 0 0),(.agg (kI.enc a0))] [(.live 171 [(.int .i64 a1),(.int .i64 a2)])] (fun r=>(.agg (kI.enc (⟨⟨(((r.1).Lo).M),((r.1).Lo).E⟩,⟨(((r.1).Hi).M),((r.1).Hi).E⟩⟩:AI)))) (fun r=>[(.live 171 [(.int .i64 a1),(.int .i64 r.2)])]):=cc func235 (by kernel_rfl) rfl fun E=>by
 unfold r07_Atan
 refine .g 11 rfl<|.bind fun x133 h1=>.st rfl (cl (CC.h h1) [0] [] [true] rfl (.p rfl<|.a kI<|.i<|.nil) (.p rfl (.i<|.i<|.nil) .nil) fnil (.cons (.v (.i<|.i<|.nil)) .nil) (.bool _) (.turned .nil) rfl) rfl<|.g 3 rfl<|?_
 refine .cd rfl (fun _ _=>?_) fun _ _=>?_
 ·refine .g 8 rfl<|.fi rfl rfl
 ·refine .g 7 rfl<|.bind fun x134 h4=>.st rfl (cl (CC.h h4) [0] [] [true] rfl (.p rfl<|.a kI<|.a kI<|.nil) (.p rfl (.i<|.i<|.nil) .nil) fnil (.cons (.v (.i<|.i<|.nil)) .nil) (ren_agg (K:=kI) _) (.turned .nil) rfl) rfl<|.g 24 rfl<|?_
  refine .cut (fun x:Int × Bool × (List Int) × Int × Bool × (List Int) × Int=>(r07_Atan_j1 a1 x.1 x.2.1 x.2.2.1 x.2.2.2.1 x.2.2.2.2.1 x.2.2.2.2.2.1 x.2.2.2.2.2.2,[eP 0 0,eP 4 2,eP 6 4],[(0,(.live 171 [(.int .i64 a1),(.int .i64 x.1)])),(2,(.live 37 [(.bool false),(slK (kInt .u32) []),(.int .i64 0),(.bool false),(slK (kInt .u32) []),(.int .i64 0)])),(4,(.live 37 [(.bool x.2.1),(slK (kInt .u32) x.2.2.1),(.int .i64 x.2.2.2.1),(.bool x.2.2.2.2.1),(slK (kInt .u32) x.2.2.2.2.2.1),(.int .i64 x.2.2.2.2.2.2)]))])) ?_ ?_
  ·rintro ⟨y196,y197,y198,y199,y200,y201,y202⟩
   dsimp only [r07_Atan_j1]
   refine .g 5 rfl<|.bind fun x203 h44=>.st rfl (cl (CC.h h44) [0] [] [true] rfl (.p rfl<|.a kI<|.nil) (.p rfl (.i<|.i<|.nil) .nil) fnil (.cons (.v (.i<|.i<|.nil)) .nil) (ren_agg (K:=kI) _) (.turned .nil) rfl) rfl<|.g 4 rfl<|.fi rfl rfl
  ·intro h45
   refine .g 1 rfl<|?_
   refine .lp (fun n (x:Int × Int × Bool × (List Int) × Int × Bool × (List Int) × Int × Bool × (List Int) × Int × Bool × (List Int) × Int)=>r07_Atan_l2 a1 x134 n x.1 x.2.1 x.2.2.1 x.2.2.2.1 x.2.2.2.2.1 x.2.2.2.2.2.1 x.2.2.2.2.2.2.1 x.2.2.2.2.2.2.2.1 x.2.2.2.2.2.2.2.2.1 x.2.2.2.2.2.2.2.2.2.1 x.2.2.2.2.2.2.2.2.2.2.1 x.2.2.2.2.2.2.2.2.2.2.2.1 x.2.2.2.2.2.2.2.2.2.2.2.2.1 x.2.2.2.2.2.2.2.2.2.2.2.2.2) (fun x=>([eP 0 0,eP 4 2,eP 5 3,eP 6 4,eP 7 5,eI 8 x.1],[(0,(.live 171 [(.int .i64 a1),(.int .i64 x.2.1)])),(2,(.live 37 [(.bool false),(slK (kInt .u32) []),(.int .i64 0),(.bool false),(slK (kInt .u32) []),(.int .i64 0)])),(3,(.live 37 [(.bool ((((x134.1).Lo).M).Neg)),(slK (kInt .u32) ((((x134.1).Lo).M).Mag)),(.int .i64 (((x134.1).Lo).E)),(.bool ((((x134.1).Hi).M).Neg)),(slK (kInt .u32) ((((x134.1).Hi).M).Mag)),(.int .i64 (((x134.1).Hi).E))])),(4,(.live 37 [(.bool x.2.2.1),(slK (kInt .u32) x.2.2.2.1),(.int .i64 x.2.2.2.2.1),(.bool x.2.2.2.2.2.1),(slK (kInt .u32) x.2.2.2.2.2.2.1),(.int .i64 x.2.2.2.2.2.2.2.1)])),(5,(.live 37 [(.bool x.2.2.2.2.2.2.2.2.1),(slK (kInt .u32) x.2.2.2.2.2.2.2.2.2.1),(.int .i64 x.2.2.2.2.2.2.2.2.2.2.1),(.bool x.2.2.2.2.2.2.2.2.2.2.2.1),(slK (kInt .u32) x.2.2.2.2.2.2.2.2.2.2.2.2.1),(.int .i64 x.2.2.2.2.2.2.2.2.2.2.2.2.2)]))])) (1,x134.2,a0.Lo.M.Neg,a0.Lo.M.Mag,a0.Lo.E,a0.Hi.M.Neg,a0.Hi.M.Mag,a0.Hi.E,a0.Lo.M.Neg,a0.Lo.M.Mag,a0.Lo.E,a0.Hi.M.Neg,a0.Hi.M.Mag,a0.Hi.E) [(0,0),(2,2),(3,3),(4,4),(5,5)] rfl ?_
   rintro n2 ⟨y240,y241,y242,y243,y244,y245,y246,y247,y248,y249,y250,y251,y252,y253⟩
   try dsimp only
   rw [r07_Atan_l2]
   refine .g 8 rfl<|.p0 rfl rfl fun x254 _=>.g 3 rfl<|?_
   refine .cd rfl (fun _ _=>?_) fun _ _=>?_
   ·refine .g 10 rfl<|.bind fun x260 h80=>.st rfl (cl (CC.h h80) [0] [] [true] rfl (.p rfl<|.a kI<|.a kI<|.nil) (.p rfl (.i<|.i<|.nil) .nil) fnil (.cons (.v (.i<|.i<|.nil)) .nil) (ren_agg (K:=kI) _) (.turned .nil) rfl) rfl<|.bind fun x261 h81=>.st rfl (cl (CC.h h81) [0] [] [true] rfl (.p rfl<|.a kI<|.nil) (.p rfl (.i<|.i<|.nil) .nil) fnil (.cons (.v (.i<|.i<|.nil)) .nil) (ren_agg (K:=kI) _) (.turned .nil) rfl) rfl<|.g 12 rfl<|.bind fun x262 h82=>.st rfl (cl (CC.h h82) [0] [] [true] rfl (.p rfl<|.i<|.nil) (.p rfl (.i<|.i<|.nil) .nil) fnil (.cons (.v (.i<|.i<|.nil)) .nil) (ren_agg (K:=kI) _) (.turned .nil) rfl) rfl<|.bind fun x263 h83=>.st rfl (cl (CC.h h83) [0] [] [true] rfl (.p rfl<|.a kI<|.a kI<|.nil) (.p rfl (.i<|.i<|.nil) .nil) fnil (.cons (.v (.i<|.i<|.nil)) .nil) (ren_agg (K:=kI) _) (.turned .nil) rfl) rfl<|.bind fun x264 h84=>.st rfl (cl (CC.h h84) [0] [] [true] rfl (.p rfl<|.a kI<|.a kI<|.nil) (.p rfl (.i<|.i<|.nil) .nil) fnil (.cons (.v (.i<|.i<|.nil)) .nil) (ren_agg (K:=kI) _) (.turned .nil) rfl) rfl<|.g 1 rfl<|.dn (by kernel_rfl)<|?_
    refine .g 7 rfl<|.ag ((IntKind.i64.wrap (y240+1)),x264.2,(((x264.1).Lo).M).Neg,(((x264.1).Lo).M).Mag,((x264.1).Lo).E,(((x264.1).Hi).M).Neg,(((x264.1).Hi).M).Mag,((x264.1).Hi).E,(((x261.1).Lo).M).Neg,(((x261.1).Lo).M).Mag,((x261.1).Lo).E,(((x261.1).Hi).M).Neg,(((x261.1).Hi).M).Mag,((x261.1).Hi).E) [(0,0),(2,2),(3,3),(4,4),(5,5)] rfl
   ·refine .g 4 rfl<|.jw (h45 (y241,y242,y243,y244,y245,y246,y247)) [(0,0),(2,2),(4,4)] rfl
instance r06_CSub_i (a0:AI) (a1:AI) (a2:Int) (a3:Int):CC (r06_CSub a0 a1 a2 a3) Tryz.prog 102 [(.ptr 0 0),(.agg (kI.enc a0)),(.agg (kI.enc a1))] [(.live 171 [(.int .i64 a2),(.int .i64 a3)])] (fun r=>(.agg (kI.enc (⟨⟨(((r.1).Lo).M),((r.1).Lo).E⟩,⟨(((r.1).Hi).M),((r.1).Hi).E⟩⟩:AI)))) (fun r=>[(.live 171 [(.int .i64 a2),(.int .i64 r.2)])]):=cc func102 (by kernel_rfl) rfl fun E=>by
 unfold r06_CSub
 refine .g 13 rfl<|.st rfl (bs kI [a0,a1] rfl rfl) rfl<|.bind fun x4 h1=>.st rfl (cl (CC.h h1) [0] [] [true] rfl (.p rfl<|.l<|.nil) (.p rfl (.i<|.i<|.nil) .nil) fnil (.cons (.v (.i<|.i<|.nil)) .nil) (.bool _) (.turned .nil) rfl) rfl<|.g 3 rfl<|?_
 refine .cd rfl (fun _ _=>?_) fun _ _=>?_
 ·refine .g 8 rfl<|.fi rfl rfl
 ·refine .g 8 rfl<|.bind fun x5 h4=>.st rfl (cl (CC.h h4) [0] [] [true] rfl (.p rfl<|.a kI<|.nil) (.p rfl (.i<|.i<|.nil) .nil) fnil (.cons (.v (.i<|.i<|.nil)) .nil) (ren_agg (K:=kI) _) (.turned .nil) rfl) rfl<|.bind fun x6 h5=>.st rfl (cl (CC.h h5) [0] [] [true] rfl (.p rfl<|.a kI<|.a kI<|.nil) (.p rfl (.i<|.i<|.nil) .nil) fnil (.cons (.v (.i<|.i<|.nil)) .nil) (ren_agg (K:=kI) _) (.turned .nil) rfl) rfl<|.g 1 rfl<|.dn (by kernel_rfl)<|.g 2 rfl<|.fi rfl rfl
end Go.Proofs.YtjffljhmjdljeaaGreat.Gen
