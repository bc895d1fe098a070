/- Printed by gen.py: a call does what the plain function says. -/
import Derived.Test.YtpmpcohbpankaaaGreatKonstToldGenP2
namespace Go.Proofs.YtpmpcohbpankaaaGreat.Gen
open Go Go.Abs Go.Proofs Go.Proofs.Tryz
theorem r06_Has_c (a0:AI) (a1:AD):∀ r,r06_Has a0 a1=some r→ACalls Tryz.prog 165 [(.agg (kI.enc a0)),(.agg (kD.enc a1))] (lw []) (.bool r) (ld []):=by
 unfold r06_Has
 refine go 0 func165 ntmps165 rfl ?_
 intro E hE
 refine .seq<|.region<|.w (bx 0 rfl)<|.w (bx 1 rfl)<|.p (sg rfl)<|.nil<|.seq<|.seq<|.region<|.p (la ag34 rfl)<|.bind fun x8 h1=>.p (c0 (r06_Right_p h1) rfl)<|.p (sg rfl)<|.nil<|?_
 refine .seq<|.seq<|.region<|.p (la ag26 rfl)<|.bind fun x9 h2=>.p (c0 (r05_Right_p h2) rfl)<|.p (sg rfl)<|.nil<|.seq<|.seq<|?_
 refine T.cut (X:=Bool) (fun x=>r06_Has_j1 x) (fun x=>(mkS [(4,some (.bool x))] [])) ?_ ?_
 ·rintro y12
  dsimp only [r06_Has_j1]
  refine .seq<|.ret<|fin_1 (.inr rfl) (.nil _) results165 (.t rfl) (AVle.refl _)
 ·intro h8
  refine .region<|.p (mv rfl)<|.p (mv rfl)<|?_
  refine TR.gd 12 _ rfl iff_b (fun h9=>?_) (fun h9=>?_)
  ·refine .p (mv rfl)<|.p (pt rfl)<|.p (mv rfl)<|?_
   refine TR.gd 15 _ rfl iff_b (fun h10=>?_) (fun h10=>?_)
   ·refine .p (fa 0 fl34_0 rfl)<|.p (la ag26 rfl)<|.p (la ag26 rfl)<|.bind fun x13 h11=>.p (c0 (r05_Cmp_p h11) rfl)<|.p (ar rfl)<|.p (pt rfl)<|.p (mv rfl)<|?_
    refine TR.gd 22 _ rfl iff_dec (fun h12=>?_) (fun h12=>?_)
    ·refine .p (la ag26 rfl)<|.p (fa 3 fl34_1 rfl)<|.p (la ag26 rfl)<|.bind fun x14 h13=>.p (c0 (r05_Cmp_p h13) rfl)<|.p (ar rfl)<|.p (pt rfl)<|.p (sg rfl)<|.nil<|.weak (h8 (decide (x14≤0))) (jn (m:=0) [] hE (.b rfl<|.nil) .nil rfl)
    ·refine .k rfl<|.k rfl<|.k rfl<|.k rfl<|.k rfl<|.p (pf rfl)<|.p (sg rfl)<|.nil<|.weak (h8 false) (jn (m:=0) [] hE (.b rfl<|.nil) .nil rfl)
   ·refine .k rfl<|.k rfl<|.k rfl<|.k rfl<|.k rfl<|.p (pf rfl)<|.p (mv rfl)<|.k rfl<|.k rfl<|.k rfl<|.k rfl<|.k rfl<|.p (pf rfl)<|.p (sg rfl)<|?_
    refine .nil<|.weak (h8 false) (jn (m:=0) [] hE (.b rfl<|.nil) .nil rfl)
  ·refine .k rfl<|.p (pf rfl)<|.p (mv rfl)<|.k rfl<|.k rfl<|.k rfl<|.k rfl<|.k rfl<|.p (pf rfl)<|.p (mv rfl)<|.k rfl<|.k rfl<|.k rfl<|.k rfl<|?_
   refine .k rfl<|.p (pf rfl)<|.p (sg rfl)<|.nil<|.weak (h8 false) (jn (m:=0) [] hE (.b rfl<|.nil) .nil rfl)
theorem r06_Has_p {a0:AI} {a1:AD} {r:Bool} (h:r06_Has a0 a1=some r):Pur Tryz.prog 165 [(.agg (kI.enc a0)),(.agg (kD.enc a1))] (.bool r):=⟨⟨_,func165,nm165,rfl⟩,r06_Has_c a0 a1 _ h,fun _=>(.a kI<|.a kD<|.nil),fun _=>(.bool _)⟩
theorem r05_prec_c (a0:Int):∀ r,r05_prec a0=some r→ACalls Tryz.prog 193 [(.int .i64 a0)] (lw []) (.bool r) (ld []):=by
 unfold r05_prec
 refine go 0 func193 ntmps193 rfl ?_
 intro E hE
 refine .seq<|.region<|.p (sg rfl)<|.nil<|.seq<|.seq<|?_
 refine T.cut (X:=Bool) (fun x=>r05_prec_j1 x) (fun x=>(mkS [(2,some (.bool x))] [])) ?_ ?_
 ·rintro y2
  dsimp only [r05_prec_j1]
  refine .seq<|.ret<|fin_1 (.inr rfl) (.nil _) results193 (.t rfl) (AVle.refl _)
 ·intro h2
  refine .region<|.p (mv rfl)<|.p (ar rfl)<|.p (mv rfl)<|?_
  refine TR.gd 5 _ rfl iff_dec (fun h3=>?_) (fun h3=>?_)
  ·refine .p (mv rfl)<|.p (ar rfl)<|.p (pt rfl)<|.p (sg rfl)<|.nil<|.weak (h2 (decide (a0≤400))) (jn (m:=0) [] hE (.b rfl<|.nil) .nil rfl)
  ·refine .k rfl<|.k rfl<|.p (pf rfl)<|.p (sg rfl)<|.nil<|.weak (h2 false) (jn (m:=0) [] hE (.b rfl<|.nil) .nil rfl)
theorem r05_prec_p {a0:Int} {r:Bool} (h:r05_prec a0=some r):Pur Tryz.prog 193 [(.int .i64 a0)] (.bool r):=⟨⟨_,func193,nm193,rfl⟩,r05_prec_c a0 _ h,fun _=>(.i<|.nil),fun _=>(.bool _)⟩
theorem r05_upMag_c (a0:List Int) (a1:Int):∀ r,r05_upMag a0 a1=some r→ACalls Tryz.prog 194 [(slK (kInt .u32) a0),(.int .i64 a1)] (lw []) (slK (kInt .u32) r) (ld []):=by
 unfold r05_upMag
 refine go 0 func194 ntmps194 rfl ?_
 intro E hE
 refine .seq<|.region<|?_
 refine TR.st 4 (slK (kInt .u32) []) [] (Snd.le (snd_assign _ _ rfl rfl rfl rfl) AVle.nil) rfl rfl rfl ?_
 refine .nil<|.seq<|.seq<|.region<|.p (mv rfl)<|.p (bd ze24 pl24 rfl)<|.p (mv rfl)<|.bind fun x2 h1=>.p (c0 (r05_up_p h1) rfl)<|?_
 refine TR.st 9 (slK (kInt .u32) ((x2).Mag)) [] (snd_field_sca _ _ _ _ _ _ _ _ rfl underlying24 rfl rfl rfl sc22 rfl rfl rfl (Nat.le_of_ble_eq_true rfl)) rfl rfl rfl ?_
 refine .p (sg rfl)<|.nil<|.seq<|.ret<|fin_1 (.inr rfl) (.nil _) results194 (.t rfl) (AVle.refl _)
theorem r05_upMag_p {a0:List Int} {a1:Int} {r:(List Int)} (h:r05_upMag a0 a1=some r):Pur Tryz.prog 194 [(slK (kInt .u32) a0),(.int .i64 a1)] (slK (kInt .u32) r):=⟨⟨_,func194,nm194,rfl⟩,r05_upMag_c a0 a1 _ h,fun _=>(.l<|.i<|.nil),fun _=>(ren_sl _)⟩
theorem r03_short_c (a0:List Int) (a1:Int):∀ r,r03_short a0 a1=some r→ACalls Tryz.prog 210 [(slK (kInt .u32) a0),(.int .u64 a1)] (lw []) (.tup [(slK (kInt .u32) r.1),(slK (kInt .u32) r.2)]) (ld []):=by
 unfold r03_short
 refine go 0 func210 ntmps210 rfl ?_
 intro E hE
 refine .seq<|.region<|?_
 refine TR.st 4 (slK (kInt .u32) []) [] (Snd.le (snd_assign _ _ rfl rfl rfl rfl) AVle.nil) rfl rfl rfl ?_
 refine TR.st 5 (slK (kInt .u32) []) [] (Snd.le (snd_assign _ _ rfl rfl rfl rfl) AVle.nil) rfl rfl rfl ?_
 refine .nil<|.seq<|.seq<|.region<|.p (mv rfl)<|.p (ln underlying22 rfl)<|.guard fun h1=>?_
 refine TR.st 11 (.row 0 (kInt .u32).sz 0 (((List.replicate a0.length (kInt .u32).z)).length)) [(0,(rwK (kInt .u32) 77 (List.replicate a0.length (kInt .u32).z)))] (snd_makeK (kInt .u32) _ _ _ _ _ 0 _ _ _ rfl underlying22 ze77 sb77 (by decide) rfl rfl rfl rfl rfl h1) rfl rfl rfl ?_
 refine .p (sg rfl)<|.nil<|.seq<|.seq<|.region<|.p (sg rfl)<|.nil<|.seq<|.seq<|.seq<|.region<|.p (mv rfl)<|.p (ln underlying22 rfl)<|.p (ar rfl)<|?_
 refine .p (sg rfl)<|.nil<|.seq<|?_
 refine T.cut (X:=Int × (List Int)) (fun x=>r03_short_j1 x.1 x.2) (fun x=>(mkS [(6,some (.row 0 (kInt .u32).sz 0 ((x.2).length))),(7,some (.int .u64 x.1))] [(0,(rwK (kInt .u32) 77 x.2))])) ?_ ?_
 ·rintro ⟨y23,y24⟩
  dsimp only [r03_short_j1]
  refine .seq<|.seq<|?_
  refine T.weak ?_ (fun a w h=>Conc.freezeK (kInt .u32) h 6 0 0 ((y24).length) 77 y24 rfl rfl (by omega))
  refine T.weak ?_ (fun a w h=>take_all h)
  refine .region<|.p (mv rfl)<|.bind fun x25 h32=>.p (c0 (r01_Trim_p h32) rfl)<|.p (mv rfl)<|.bind fun x26 h33=>.p (c0 (r01_From_p h33) rfl)<|.p (sg rfl)<|.p (sg rfl)<|.nil<|.seq<|.ret<|fin_2 (.inr rfl) (.nil _) results210 (.t rfl) (.t rfl) (AVle.refl _)
 ·intro h34
  refine .block<|.loopW (X:=Int × Int × (List Int)) (fun n x=>r03_short_l2 a0 a1 n x.1 x.2.1 x.2.2) (fun x=>(mkS [(0,some (slK (kInt .u32) a0)),(1,some (.int .u64 a1)),(6,some (.row 0 (kInt .u32).sz 0 ((x.2.2).length))),(7,some (.int .u64 x.1)),(8,some (.int .i64 x.2.1))] [(0,(rwK (kInt .u32) 77 x.2.2))])) (0,(IntKind.i64.wrap ((a0.length:Int)-1)),(List.replicate a0.length (kInt .u32).z)) (jn (m:=0) [(0,0)] hE (.l rfl<|.i rfl<|.g rfl (.row _ _ _ _ _ rfl)<|.i rfl<|.i rfl<|.nil) (.cons (.refl _) (renV_rw _ _)<|.nil) rfl) (fun _=>rfl) rfl<|?_
  rintro n2 ⟨y30,y31,y32⟩
  try dsimp only
  rw [r03_short_l2]
  refine .seq<|.seq<|.region<|.p (mv rfl)<|.p (ar rfl)<|.nil<|.seq<|?_
  refine T.cond_p rfl iff_dec (fun h55 h56=>?_) (fun h55 h56=>?_)
  ·refine .skip<|.seq<|.seq<|.block<|.seq<|.region<|.p (mv rfl)<|?_
   refine TR.st 20 (.int .u64 (shlI .u64 y30 32)) [] (snd_shl _ _ _ _ _ _ _ _ rfl rfl rfl rfl rfl (by decide)) rfl rfl rfl ?_
   refine .p (mv rfl)<|.p (mv rfl)<|.guard fun h61=>?_
   refine TR.st 23 (.iptr [(.int .u32 (a0.getD y31.toNat (kInt .u32).z))]) [] (snd_indexK (kInt .u32) _ _ _ _ _ _ y31 rfl underlying22 si77 rfl rfl rfl rfl h61) rfl rfl rfl ?_
   refine .p (lsi sc77 rfl)<|.p (cv underlying77 underlying117 rfl)<|.p (ar rfl)<|.p (sg rfl)<|.nil<|.seq<|.seq<|.region<|.p (mv rfl)<|.p (mv rfl)<|.p (mv rfl)<|.p (mv rfl)<|.guard fun h62=>?_
   refine TR.st 31 (.int .u64 (IntKind.u64.wrap ((orI .u64 (shlI .u64 y30 32) (IntKind.u64.wrap (a0.getD y31.toNat (kInt .u32).z))).tdiv a1))) [] (snd_quo _ _ _ _ _ _ _ rfl rfl rfl rfl rfl h62) rfl rfl rfl ?_
   refine .p (cv underlying117 underlying77 rfl)<|.guard fun h63=>?_
   obtain ⟨h631,h632⟩:=h63
   refine TR.st 33 (.rptr 0 (kInt .u32).sz y31.toNat 0) [] (idx_r (snd_index_r _ _ _ _ _ 0 0 ((y32).length) _ y31 rfl underlying22 si77 rfl rfl rfl rfl h631 (by omega)) (Nat.zero_add _)) rfl rfl rfl ?_
   refine TR.sn [(0,(rwK (kInt .u32) 77 ((y32).set y31.toNat (IntKind.u32.wrap (IntKind.u64.wrap ((orI .u64 (shlI .u64 y30 32) (IntKind.u64.wrap (a0.getD y31.toNat (kInt .u32).z))).tdiv a1))))))] (snd_storeK_sca (kInt .u32) _ _ _ 0 y31.toNat _ _ (IntKind.u32.wrap (IntKind.u64.wrap ((orI .u64 (shlI .u64 y30 32) (IntKind.u64.wrap (a0.getD y31.toNat (kInt .u32).z))).tdiv a1))) _ rfl rfl rfl sc77 rfl rfl rfl rfl rfl rfl (by first | omega | (simp only [List.length_set]; omega))) rfl rfl ?_
   refine TR.weak ?_ (fun a w h=>Conc.relen h 6 ((((y32).set y31.toNat (IntKind.u32.wrap (IntKind.u64.wrap ((orI .u64 (shlI .u64 y30 32) (IntKind.u64.wrap (a0.getD y31.toNat (kInt .u32).z))).tdiv a1))))).length) rfl List.length_set.symm)
   refine .nil<|.seq<|.region<|.p (mv rfl)<|.p (mv rfl)<|.guard fun h64=>?_
   refine TR.st 36 (.int .u64 ((orI .u64 (shlI .u64 y30 32) (IntKind.u64.wrap (a0.getD y31.toNat (kInt .u32).z))).tmod a1)) [] (snd_rem _ _ _ _ _ _ _ rfl rfl rfl rfl rfl h64) rfl rfl rfl ?_
   refine .p (sg rfl)<|.nil<|.block<|.seq<|.region<|.p (mv rfl)<|.p (ar rfl)<|.p (sg rfl)<|.nil<|.again (((orI .u64 (shlI .u64 y30 32) (IntKind.u64.wrap (a0.getD y31.toNat (kInt .u32).z))).tmod a1),(IntKind.i64.wrap (y31-1)),((y32).set y31.toNat (IntKind.u32.wrap (IntKind.u64.wrap ((orI .u64 (shlI .u64 y30 32) (IntKind.u64.wrap (a0.getD y31.toNat (kInt .u32).z))).tdiv a1))))) (jn (m:=0) [(0,0)] hE (.l rfl<|.i rfl<|.g rfl (.row _ _ _ _ _ rfl)<|.i rfl<|.i rfl<|.nil) (.cons (.refl _) (renV_rw _ _)<|.nil) rfl) rfl
  ·refine .exit<|.seq_exit<|.loop_exit<|.block_exit<|.weak (h34 (y30,y32)) (jn (m:=0) [(0,0)] hE (.g rfl (.row _ _ _ _ _ rfl)<|.i rfl<|.nil) (.cons (.refl _) (renV_rw _ _)<|.nil) rfl)
theorem r03_short_p {a0:List Int} {a1:Int} {r:(List Int) × (List Int)} (h:r03_short a0 a1=some r):Pur Tryz.prog 210 [(slK (kInt .u32) a0),(.int .u64 a1)] (.tup [(slK (kInt .u32) r.1),(slK (kInt .u32) r.2)]):=⟨⟨_,func210,nm210,rfl⟩,r03_short_c a0 a1 _ h,fun _=>(.l<|.i<|.nil),fun _=>(ren_tupL (.l<|.l<|.nil))⟩
theorem r03_guess_c (a0:List Int) (a1:List Int):∀ r,r03_guess a0 a1=some r→ACalls Tryz.prog 211 [(slK (kInt .u32) a0),(slK (kInt .u32) a1)] (lw []) (.int .u64 r) (ld []):=by
 unfold r03_guess
 refine go 0 func211 ntmps211 rfl ?_
 intro E hE
 refine .seq<|.region<|.p (sg rfl)<|.nil<|.seq<|.seq<|.region<|.p (mv rfl)<|.p (ln underlying22 rfl)<|.p (sg rfl)<|.nil<|.seq<|.seq<|.seq<|?_
 refine .region<|.p (mv rfl)<|.p (ln underlying22 rfl)<|.p (mv rfl)<|.p (ar rfl)<|.nil<|.seq<|?_
 refine T.cond_p rfl iff_dec (fun h1 h2=>?_) (fun h1 h2=>?_)
 ·refine .seq<|.region<|.p (sg rfl)<|.nil<|.seq<|.ret<|.seq_ret<|fin_1 (.inr rfl) (.nil _) results211 (.t rfl) (AVle.refl _)
 ·refine .skip<|.seq<|.seq<|.region<|.p (mv rfl)<|.p (mv rfl)<|.p (ar rfl)<|.guard fun h3=>?_
  refine TR.st 16 (.iptr [(.int .u32 (a0.getD ((IntKind.i64.wrap ((a1.length:Int)-1)).toNat) (kInt .u32).z))]) [] (snd_indexK (kInt .u32) _ _ _ _ _ _ (IntKind.i64.wrap ((a1.length:Int)-1)) rfl underlying22 si77 rfl rfl rfl rfl h3) rfl rfl rfl ?_
  refine .p (lsi sc77 rfl)<|.p (cv underlying77 underlying117 rfl)<|.p (sg rfl)<|.nil<|.seq<|.seq<|.seq<|.region<|.p (mv rfl)<|.p (ln underlying22 rfl)<|.p (mv rfl)<|.p (ar rfl)<|.nil<|.seq<|?_
  refine T.cut (X:=Int) (fun x=>r03_guess_j1 a1 x) (fun x=>(mkS [(1,some (slK (kInt .u32) a1)),(5,some (.int .i64 (a1.length:Int))),(6,some (.int .u64 x))] [])) ?_ ?_
  ·rintro y2
   dsimp only [r03_guess_j1]
   refine .seq<|.seq<|.region<|.p (mv rfl)<|.p (mv rfl)<|.p (mv rfl)<|.p (ar rfl)<|.guard fun h7=>?_
   refine TR.st 35 (.iptr [(.int .u32 (a1.getD ((IntKind.i64.wrap ((a1.length:Int)-1)).toNat) (kInt .u32).z))]) [] (snd_indexK (kInt .u32) _ _ _ _ _ _ (IntKind.i64.wrap ((a1.length:Int)-1)) rfl underlying22 si77 rfl rfl rfl rfl h7) rfl rfl rfl ?_
   refine .p (lsi sc77 rfl)<|.p (cv underlying77 underlying117 rfl)<|.guard fun h8=>?_
   refine TR.st 38 (.int .u64 (IntKind.u64.wrap (y2.tdiv (IntKind.u64.wrap (a1.getD ((IntKind.i64.wrap ((a1.length:Int)-1)).toNat) (kInt .u32).z))))) [] (snd_quo _ _ _ _ _ _ _ rfl rfl rfl rfl rfl h8) rfl rfl rfl ?_
   refine TR.st 39 (.int .u64 (mn (IntKind.u64.wrap (y2.tdiv (IntKind.u64.wrap (a1.getD ((IntKind.i64.wrap ((a1.length:Int)-1)).toNat) (kInt .u32).z)))) 4294967295)) [] (snd_min _ _ _ _ _ _ rfl rfl rfl rfl rfl) rfl rfl rfl ?_
   refine .p (sg rfl)<|.nil<|.seq<|.ret<|fin_1 (.inr rfl) (.nil _) results211 (.t rfl) (AVle.refl _)
  ·intro h9
   refine T.cond_p rfl iff_dec (fun h10 h11=>?_) (fun h10 h11=>?_)
   ·refine .region<|.p (mv rfl)<|.p (mv rfl)<|.p (mv rfl)<|.guard fun h12=>?_
    refine TR.st 26 (.iptr [(.int .u32 (a0.getD a1.length (kInt .u32).z))]) [] (snd_indexK (kInt .u32) _ _ _ _ _ _ (a1.length:Int) rfl underlying22 si77 rfl rfl rfl rfl h12) rfl rfl rfl ?_
    refine .p (lsi sc77 rfl)<|.p (cv underlying77 underlying117 rfl)<|?_
    refine TR.st 29 (.int .u64 (shlI .u64 (IntKind.u64.wrap (a0.getD a1.length (kInt .u32).z)) 32)) [] (snd_shl _ _ _ _ _ _ _ _ rfl rfl rfl rfl rfl (by decide)) rfl rfl rfl ?_
    refine .p (ar rfl)<|.p (sg rfl)<|.nil<|.weak (h9 (orI .u64 (IntKind.u64.wrap (a0.getD ((IntKind.i64.wrap ((a1.length:Int)-1)).toNat) (kInt .u32).z)) (shlI .u64 (IntKind.u64.wrap (a0.getD a1.length (kInt .u32).z)) 32))) (jn (m:=0) [] hE (.l rfl<|.i rfl<|.i rfl<|.nil) .nil rfl)
   ·refine .skip<|.weak (h9 (IntKind.u64.wrap (a0.getD ((IntKind.i64.wrap ((a1.length:Int)-1)).toNat) (kInt .u32).z))) (jn (m:=0) [] hE (.l rfl<|.i rfl<|.i rfl<|.nil) .nil rfl)
theorem r03_guess_p {a0:List Int} {a1:List Int} {r:Int} (h:r03_guess a0 a1=some r):Pur Tryz.prog 211 [(slK (kInt .u32) a0),(slK (kInt .u32) a1)] (.int .u64 r):=⟨⟨_,func211,nm211,rfl⟩,r03_guess_c a0 a1 _ h,fun _=>(.l<|.l<|.nil),fun _=>(.int _ _)⟩
theorem r01_Mul_c (a0:List Int) (a1:List Int):∀ r,r01_Mul a0 a1=some r→ACalls Tryz.prog 213 [(slK (kInt .u32) a0),(slK (kInt .u32) a1)] (lw []) (slK (kInt .u32) r) (ld []):=by
 unfold r01_Mul
 refine go 0 func213 ntmps213 rfl ?_
 intro E hE
 refine .seq<|.region<|?_
 refine TR.st 4 (slK (kInt .u32) []) [] (Snd.le (snd_assign _ _ rfl rfl rfl rfl) AVle.nil) rfl rfl rfl ?_
 refine .nil<|.seq<|.seq<|.region<|.p (mv rfl)<|.p (ln underlying22 rfl)<|.p (mv rfl)<|.p (ln underlying22 rfl)<|.p (ar rfl)<|.guard fun h1=>?_
 refine TR.st 15 (.row 0 (kInt .u32).sz 0 (((List.replicate ((IntKind.i64.wrap ((a0.length:Int)+(a1.length:Int))).toNat) (kInt .u32).z)).length)) [(0,(rwK (kInt .u32) 77 (List.replicate ((IntKind.i64.wrap ((a0.length:Int)+(a1.length:Int))).toNat) (kInt .u32).z)))] (snd_makeK (kInt .u32) _ _ _ _ _ 0 _ _ _ rfl underlying22 ze77 sb77 (by decide) rfl rfl rfl rfl rfl h1) rfl rfl rfl ?_
 refine .p (sg rfl)<|.nil<|.seq<|.seq<|.seq<|.region<|.p (sg rfl)<|.nil<|.seq<|?_
 refine T.cut (X:=(List Int)) (fun x=>r01_Mul_j1 x) (fun x=>(mkS [(5,some (.row 0 (kInt .u32).sz 0 ((x).length)))] [(0,(rwK (kInt .u32) 77 x))])) ?_ ?_
 ·rintro y276
  dsimp only [r01_Mul_j1]
  refine .seq<|.seq<|?_
  refine T.weak ?_ (fun a w h=>Conc.freezeK (kInt .u32) h 5 0 0 ((y276).length) 77 y276 rfl rfl (by omega))
  refine T.weak ?_ (fun a w h=>take_all h)
  refine .region<|.p (mv rfl)<|.bind fun x277 h374=>.p (c0 (r01_Trim_p h374) rfl)<|.p (sg rfl)<|.nil<|.seq<|.ret<|fin_1 (.inr rfl) (.nil _) results213 (.t rfl) (AVle.refl _)
 ·intro h375
  refine .block<|.loopW (X:=Int × (List Int)) (fun n x=>r01_Mul_l2 a0 a1 n x.1 x.2) (fun x=>(mkS [(0,some (slK (kInt .u32) a0)),(1,some (slK (kInt .u32) a1)),(5,some (.row 0 (kInt .u32).sz 0 ((x.2).length))),(6,some (.int .i64 x.1))] [(0,(rwK (kInt .u32) 77 x.2))])) (0,(List.replicate ((IntKind.i64.wrap ((a0.length:Int)+(a1.length:Int))).toNat) (kInt .u32).z)) (jn (m:=0) [(0,0)] hE (.l rfl<|.l rfl<|.g rfl (.row _ _ _ _ _ rfl)<|.i rfl<|.nil) (.cons (.refl _) (renV_rw _ _)<|.nil) rfl) (fun _=>rfl) rfl<|?_
  rintro n2 ⟨y338,y339⟩
  try dsimp only
  rw [r01_Mul_l2]
  refine .seq<|.seq<|.region<|.p (mv rfl)<|.p (mv rfl)<|.p (ln underlying22 rfl)<|.p (ar rfl)<|.nil<|.seq<|?_
  refine T.cond_p rfl iff_dec (fun h624 h625=>?_) (fun h624 h625=>?_)
  ·refine .skip<|.seq<|.seq<|?_
   refine T.cut (X:=(List Int)) (fun x=>r01_Mul_j3 (fun z0 z1=>r01_Mul_l2 a0 a1 n2 z0 z1) y338 x) (fun x=>(mkS [(0,some (slK (kInt .u32) a0)),(1,some (slK (kInt .u32) a1)),(5,some (.row 0 (kInt .u32).sz 0 ((x).length))),(6,some (.int .i64 y338))] [(0,(rwK (kInt .u32) 77 x))])) ?_ ?_
   ·rintro y354
    dsimp only [r01_Mul_j3]
    refine .seq<|.region<|.p (mv rfl)<|.p (ar rfl)<|.p (sg rfl)<|.nil<|.again ((IntKind.i64.wrap (y338+1)),y354) (jn (m:=0) [(0,0)] hE (.l rfl<|.l rfl<|.g rfl (.row _ _ _ _ _ rfl)<|.i rfl<|.nil) (.cons (.refl _) (renV_rw _ _)<|.nil) rfl) rfl
   ·intro h687
    refine .block<|.seq<|.region<|.p (sg rfl)<|.nil<|.seq<|.seq<|.seq<|.region<|.p (sg rfl)<|.nil<|.seq<|?_
    refine T.cut (X:=Int × (List Int)) (fun x=>r01_Mul_j4 y338 a1 (fun z0 z1=>r01_Mul_l2 a0 a1 n2 z0 z1) x.1 x.2) (fun x=>(mkS [(0,some (slK (kInt .u32) a0)),(1,some (slK (kInt .u32) a1)),(5,some (.row 0 (kInt .u32).sz 0 ((x.2).length))),(6,some (.int .i64 y338)),(7,some (.int .u64 x.1))] [(0,(rwK (kInt .u32) 77 x.2))])) ?_ ?_
    ·rintro ⟨y361,y362⟩
     dsimp only [r01_Mul_j4]
     refine .seq<|.region<|.p (mv rfl)<|.p (mv rfl)<|.p (mv rfl)<|.p (ln underlying22 rfl)<|.p (ar rfl)<|.p (mv rfl)<|.p (cv underlying117 underlying77 rfl)<|.guard fun h718=>?_
     obtain ⟨h7181,h7182⟩:=h718
     refine TR.st 65 (.rptr 0 (kInt .u32).sz ((IntKind.i64.wrap (y338+(a1.length:Int))).toNat) 0) [] (idx_r (snd_index_r _ _ _ _ _ 0 0 ((y362).length) _ (IntKind.i64.wrap (y338+(a1.length:Int))) rfl underlying22 si77 rfl rfl rfl rfl h7181 (by omega)) (Nat.zero_add _)) rfl rfl rfl ?_
     refine TR.sn [(0,(rwK (kInt .u32) 77 ((y362).set ((IntKind.i64.wrap (y338+(a1.length:Int))).toNat) (IntKind.u32.wrap y361))))] (snd_storeK_sca (kInt .u32) _ _ _ 0 ((IntKind.i64.wrap (y338+(a1.length:Int))).toNat) _ _ (IntKind.u32.wrap y361) _ rfl rfl rfl sc77 rfl rfl rfl rfl rfl rfl (by first | omega | (simp only [List.length_set]; omega))) rfl rfl ?_
     refine TR.weak ?_ (fun a w h=>Conc.relen h 5 ((((y362).set ((IntKind.i64.wrap (y338+(a1.length:Int))).toNat) (IntKind.u32.wrap y361))).length) rfl List.length_set.symm)
     refine .nil<|.block<|.weak (h687 ((y362).set ((IntKind.i64.wrap (y338+(a1.length:Int))).toNat) (IntKind.u32.wrap y361))) (jn (m:=0) [(0,0)] hE (.l rfl<|.l rfl<|.g rfl (.row _ _ _ _ _ rfl)<|.i rfl<|.nil) (.cons (.refl _) (renV_rw _ _)<|.nil) rfl)
    ·intro h719
     refine .block<|.loopW (X:=Int × Int × (List Int)) (fun n x=>r01_Mul_l5 a1 y338 a0 (fun z0 z1=>r01_Mul_l2 a0 a1 n2 z0 z1) n x.1 x.2.1 x.2.2) (fun x=>(mkS [(0,some (slK (kInt .u32) a0)),(1,some (slK (kInt .u32) a1)),(5,some (.row 0 (kInt .u32).sz 0 ((x.2.2).length))),(6,some (.int .i64 y338)),(7,some (.int .u64 x.1)),(8,some (.int .i64 x.2.1))] [(0,(rwK (kInt .u32) 77 x.2.2))])) (0,0,y339) (jn (m:=0) [(0,0)] hE (.l rfl<|.l rfl<|.g rfl (.row _ _ _ _ _ rfl)<|.i rfl<|.i rfl<|.i rfl<|.nil) (.cons (.refl _) (renV_rw _ _)<|.nil) rfl) (fun _=>rfl) rfl<|?_
     rintro n5 ⟨y366,y367,y368⟩
     try dsimp only
     rw [r01_Mul_l5]
     refine .seq<|.seq<|.region<|.p (mv rfl)<|.p (mv rfl)<|.p (ln underlying22 rfl)<|.p (ar rfl)<|.nil<|.seq<|?_
     refine T.cond_p rfl iff_dec (fun h740 h741=>?_) (fun h740 h741=>?_)
     ·refine .skip<|.seq<|.seq<|.block<|.seq<|.draw mixed<|.p (mv rfl)<|.p (mv rfl)<|.guard fun h746=>?_
      refine TD.st 30 (.iptr [(.int .u32 (a0.getD y338.toNat (kInt .u32).z))]) [] (snd_indexK (kInt .u32) _ _ _ _ _ _ y338 rfl underlying22 si77 rfl rfl rfl rfl h746) rfl rfl rfl ?_
      refine .p (lsi sc77 rfl)<|.p (cv underlying77 underlying117 rfl)<|.p (mv rfl)<|.p (mv rfl)<|.guard fun h747=>?_
      refine TD.st 35 (.iptr [(.int .u32 (a1.getD y367.toNat (kInt .u32).z))]) [] (snd_indexK (kInt .u32) _ _ _ _ _ _ y367 rfl underlying22 si77 rfl rfl rfl rfl h747) rfl rfl rfl ?_
      refine .p (lsi sc77 rfl)<|.p (cv underlying77 underlying117 rfl)<|.p (ar rfl)<|.p (mv rfl)<|.p (mv rfl)<|.p (mv rfl)<|.p (ar rfl)<|.guard fun h748=>?_
      obtain ⟨h7481,h7482⟩:=h748
      refine TD.st 43 (.rptr 0 (kInt .u32).sz ((IntKind.i64.wrap (y338+y367)).toNat) 0) [] (idx_r (snd_index_r _ _ _ _ _ 0 0 ((y368).length) _ (IntKind.i64.wrap (y338+y367)) rfl underlying22 si77 rfl rfl rfl rfl h7481 (by omega)) (Nat.zero_add _)) rfl rfl rfl ?_
      refine TD.st 44 (.int .u32 ((y368).getD ((IntKind.i64.wrap (y338+y367)).toNat) (kInt .u32).z)) [] (snd_loadK_sca (kInt .u32) _ _ 0 ((IntKind.i64.wrap (y338+y367)).toNat) 0 _ _ rfl sc77 rfl rfl rfl rfl (by first | omega | (simp only [List.length_set]; omega)) (by decide)) rfl rfl rfl ?_
      refine .p (cv underlying77 underlying117 rfl)<|.p (ar rfl)<|.p (mv rfl)<|.p (ar rfl)<|.p (sg rfl)<|.nil (by kernel_rfl)<|.seq<|.seq<|.region<|.p (mv rfl)<|.p (mv rfl)<|.p (mv rfl)<|.p (ar rfl)<|.p (mv rfl)<|?_
      refine .p (cv underlying117 underlying77 rfl)<|.guard fun h749=>?_
      obtain ⟨h7491,h7492⟩:=h749
      refine TR.st 55 (.rptr 0 (kInt .u32).sz ((IntKind.i64.wrap (y338+y367)).toNat) 0) [] (idx_r (snd_index_r _ _ _ _ _ 0 0 ((y368).length) _ (IntKind.i64.wrap (y338+y367)) rfl underlying22 si77 rfl rfl rfl rfl h7491 (by omega)) (Nat.zero_add _)) rfl rfl rfl ?_
      refine TR.sn [(0,(rwK (kInt .u32) 77 ((y368).set ((IntKind.i64.wrap (y338+y367)).toNat) (IntKind.u32.wrap (IntKind.u64.wrap ((IntKind.u64.wrap ((IntKind.u64.wrap ((IntKind.u64.wrap (a0.getD y338.toNat (kInt .u32).z))*(IntKind.u64.wrap (a1.getD y367.toNat (kInt .u32).z))))+(IntKind.u64.wrap ((y368).getD ((IntKind.i64.wrap (y338+y367)).toNat) (kInt .u32).z))))+y366))))))] (snd_storeK_sca (kInt .u32) _ _ _ 0 ((IntKind.i64.wrap (y338+y367)).toNat) _ _ (IntKind.u32.wrap (IntKind.u64.wrap ((IntKind.u64.wrap ((IntKind.u64.wrap ((IntKind.u64.wrap (a0.getD y338.toNat (kInt .u32).z))*(IntKind.u64.wrap (a1.getD y367.toNat (kInt .u32).z))))+(IntKind.u64.wrap ((y368).getD ((IntKind.i64.wrap (y338+y367)).toNat) (kInt .u32).z))))+y366))) _ rfl rfl rfl sc77 rfl rfl rfl rfl rfl rfl (by first | omega | (simp only [List.length_set]; omega))) rfl rfl ?_
      refine TR.weak ?_ (fun a w h=>Conc.relen h 5 ((((y368).set ((IntKind.i64.wrap (y338+y367)).toNat) (IntKind.u32.wrap (IntKind.u64.wrap ((IntKind.u64.wrap ((IntKind.u64.wrap ((IntKind.u64.wrap (a0.getD y338.toNat (kInt .u32).z))*(IntKind.u64.wrap (a1.getD y367.toNat (kInt .u32).z))))+(IntKind.u64.wrap ((y368).getD ((IntKind.i64.wrap (y338+y367)).toNat) (kInt .u32).z))))+y366))))).length) rfl List.length_set.symm)
      refine .nil<|.seq<|.region<|.p (mv rfl)<|?_
      refine TR.st 57 (.int .u64 (shrI .u64 (IntKind.u64.wrap ((IntKind.u64.wrap ((IntKind.u64.wrap ((IntKind.u64.wrap (a0.getD y338.toNat (kInt .u32).z))*(IntKind.u64.wrap (a1.getD y367.toNat (kInt .u32).z))))+(IntKind.u64.wrap ((y368).getD ((IntKind.i64.wrap (y338+y367)).toNat) (kInt .u32).z))))+y366)) 32)) [] (snd_shr _ _ _ _ _ _ _ _ rfl rfl rfl rfl rfl (by decide)) rfl rfl rfl ?_
      refine .p (sg rfl)<|.nil<|.block<|.seq<|.region<|.p (mv rfl)<|.p (ar rfl)<|.p (sg rfl)<|.nil<|.again ((shrI .u64 (IntKind.u64.wrap ((IntKind.u64.wrap ((IntKind.u64.wrap ((IntKind.u64.wrap (a0.getD y338.toNat (kInt .u32).z))*(IntKind.u64.wrap (a1.getD y367.toNat (kInt .u32).z))))+(IntKind.u64.wrap ((y368).getD ((IntKind.i64.wrap (y338+y367)).toNat) (kInt .u32).z))))+y366)) 32),(IntKind.i64.wrap (y367+1)),((y368).set ((IntKind.i64.wrap (y338+y367)).toNat) (IntKind.u32.wrap (IntKind.u64.wrap ((IntKind.u64.wrap ((IntKind.u64.wrap ((IntKind.u64.wrap (a0.getD y338.toNat (kInt .u32).z))*(IntKind.u64.wrap (a1.getD y367.toNat (kInt .u32).z))))+(IntKind.u64.wrap ((y368).getD ((IntKind.i64.wrap (y338+y367)).toNat) (kInt .u32).z))))+y366))))) (jn (m:=0) [(0,0)] hE (.l rfl<|.l rfl<|.g rfl (.row _ _ _ _ _ rfl)<|.i rfl<|.i rfl<|.i rfl<|.nil) (.cons (.refl _) (renV_rw _ _)<|.nil) rfl) rfl
     ·refine .exit<|.seq_exit<|.loop_exit<|.block_exit<|.weak (h719 (y366,y368)) (jn (m:=0) [(0,0)] hE (.l rfl<|.l rfl<|.g rfl (.row _ _ _ _ _ rfl)<|.i rfl<|.i rfl<|.nil) (.cons (.refl _) (renV_rw _ _)<|.nil) rfl)
  ·refine .exit<|.seq_exit<|.loop_exit<|.block_exit<|.weak (h375 y339) (jn (m:=0) [(0,0)] hE (.g rfl (.row _ _ _ _ _ rfl)<|.nil) (.cons (.refl _) (renV_rw _ _)<|.nil) rfl)
theorem r01_Mul_p {a0:List Int} {a1:List Int} {r:(List Int)} (h:r01_Mul a0 a1=some r):Pur Tryz.prog 213 [(slK (kInt .u32) a0),(slK (kInt .u32) a1)] (slK (kInt .u32) r):=⟨⟨_,func213,nm213,rfl⟩,r01_Mul_c a0 a1 _ h,fun _=>(.l<|.l<|.nil),fun _=>(ren_sl _)⟩
theorem r01_Sub_c (a0:List Int) (a1:List Int):∀ r,r01_Sub a0 a1=some r→ACalls Tryz.prog 212 [(slK (kInt .u32) a0),(slK (kInt .u32) a1)] (lw []) (.tup [(slK (kInt .u32) r.1),(.bool r.2)]) (ld []):=by
 unfold r01_Sub
 refine go 0 func212 ntmps212 rfl ?_
 intro E hE
 refine .seq<|.region<|.p (sg rfl)<|.p (sg rfl)<|.nil<|.seq<|.seq<|.seq<|.region<|.p (mv rfl)<|.p (mv rfl)<|.bind fun x40 h1=>.p (c0 (r01_Cmp_p h1) rfl)<|.p (ar rfl)<|?_
 refine .nil<|.seq<|?_
 refine T.cond_p rfl iff_dec (fun h2 h3=>?_) (fun h2 h3=>?_)
 ·refine .seq<|.region<|.p (sg rfl)<|.p (sg rfl)<|.nil<|.seq<|.ret<|.seq_ret<|fin_2 (.inr rfl) (.nil _) results212 (.t rfl) (.t rfl) (.tup (.cons AVle.nil (.cons (AVle.refl _) .nil)))
 ·refine .skip<|.seq<|.seq<|.region<|.p (sg rfl)<|.nil<|.seq<|.seq<|.region<|.p (sg rfl)<|.nil<|.seq<|.seq<|.seq<|?_
  refine .region<|.p (sg rfl)<|.nil<|.seq<|?_
  refine T.cut (X:=(List Int)) (fun x=>r01_Sub_j1 x) (fun x=>(mkS [(6,some (grA (kInt .u32) 0 x))] [(0,(grV (kInt .u32) 77 x))])) ?_ ?_
  ·rintro y59
   dsimp only [r01_Sub_j1]
   refine .seq<|.seq<|?_
   refine T.weak ?_ (fun a w h=>Conc.gr_still (kInt .u32) h 6 0 77 y59 rfl rfl)
   refine .region<|.p (mv rfl)<|.bind fun x60 h28=>.p (c0 (r01_Trim_p h28) rfl)<|.p (sg rfl)<|.p (sg rfl)<|.nil<|.seq<|.ret<|fin_2 (.inr rfl) (.nil _) results212 (.t rfl) (.t rfl) (AVle.refl _)
  ·intro h29
   refine .block<|?_
   refine T.weak ?_ (fun a w h=>Conc.gr_nil (kInt .u32) h 6 0 77 rfl)
   refine .loopW (X:=Int × Int × (List Int)) (fun n x=>r01_Sub_l2 a0 a1 n x.1 x.2.1 x.2.2) (fun x=>(mkS [(0,some (slK (kInt .u32) a0)),(1,some (slK (kInt .u32) a1)),(6,some (grA (kInt .u32) 0 x.2.2)),(7,some (.int .u64 x.1)),(8,some (.int .i64 x.2.1))] [(0,(grV (kInt .u32) 77 x.2.2))])) (0,0,[]) (jn (m:=0) [(0,0)] hE (.l rfl<|.l rfl<|.g rfl (ren_gr (K:=(kInt .u32)) (by rfl) [])<|.i rfl<|.i rfl<|.nil) (.cons (.refl _) (renV_gr (K:=(kInt .u32)) 77 [])<|.nil) rfl) (fun _=>rfl) rfl<|?_
   rintro n2 ⟨y72,y73,y74⟩
   try dsimp only
   rw [r01_Sub_l2]
   refine .seq<|.seq<|.region<|.p (mv rfl)<|.p (mv rfl)<|.p (ln underlying22 rfl)<|.p (ar rfl)<|.nil<|.seq<|?_
   refine T.cond_p rfl iff_dec (fun h46 h47=>?_) (fun h46 h47=>?_)
   ·refine .skip<|.seq<|.seq<|.block<|.seq<|.region<|.p (mv rfl)<|.p (mv rfl)<|.bind fun x77 h51=>.p (c0 (r01_at_p h51) rfl)<|.p (ar rfl)<|.p (mv rfl)<|.p (mv rfl)<|.bind fun x78 h52=>?_
    refine .p (c0 (r01_at_p h52) rfl)<|.p (ar rfl)<|.p (mv rfl)<|.p (ar rfl)<|.p (sg rfl)<|.nil<|.seq<|.seq<|.region<|.p (mv rfl)<|.p (mv rfl)<|.p (cv underlying117 underlying77 rfl)<|?_
    refine TR.st 33 (slK (kInt .u32) [(IntKind.u32.wrap (IntKind.u64.wrap ((IntKind.u64.wrap ((IntKind.u64.wrap (x77+4294967296))-x78))-y72)))]) [] (snd_buildSlice _ _ _ 1 _ _ [(0,(.int .u32 (IntKind.u32.wrap (IntKind.u64.wrap ((IntKind.u64.wrap ((IntKind.u64.wrap (x77+4294967296))-x78))-y72)))))] (List.map (kInt .u32).enc [(IntKind.u32.wrap (IntKind.u64.wrap ((IntKind.u64.wrap ((IntKind.u64.wrap (x77+4294967296))-x78))-y72)))]) rfl underlying22 ze77 si77 rfl rfl rfl (by decide) (by decide) (by decide) rfl rfl (Kd.even _) rfl) rfl rfl rfl ?_
    refine .guard fun h53=>?_
    refine TR.st 34 (.row 1 (kInt .u32).sz 0 (((y74++[(IntKind.u32.wrap (IntKind.u64.wrap ((IntKind.u64.wrap ((IntKind.u64.wrap (x77+4294967296))-x78))-y72)))])).length)) [(1,(rwK (kInt .u32) 77 (y74++[(IntKind.u32.wrap (IntKind.u64.wrap ((IntKind.u64.wrap ((IntKind.u64.wrap (x77+4294967296))-x78))-y72)))]))),(0,.dead)] (snd_appendK_gr (kInt .u32) _ _ _ _ _ 0 1 y74 [(IntKind.u32.wrap (IntKind.u64.wrap ((IntKind.u64.wrap ((IntKind.u64.wrap (x77+4294967296))-x78))-y72)))] rfl underlying22 ze77 sb77 rfl rfl rfl rfl rfl rfl rfl h53) rfl rfl rfl ?_
    refine .p (sg rfl)<|.nil<|.seq<|.region<|.p (mv rfl)<|?_
    refine TR.st 36 (.int .u64 (shrI .u64 (IntKind.u64.wrap ((IntKind.u64.wrap ((IntKind.u64.wrap (x77+4294967296))-x78))-y72)) 32)) [] (snd_shr _ _ _ _ _ _ _ _ rfl rfl rfl rfl rfl (by decide)) rfl rfl rfl ?_
    refine .p (ar rfl)<|.p (sg rfl)<|.nil<|.block<|.seq<|.region<|.p (mv rfl)<|.p (ar rfl)<|.p (sg rfl)<|.nil<|?_
    refine TQ.weak ?_ (fun a w h=>Conc.gr_row (kInt .u32) h 6 1 77 (y74++[(IntKind.u32.wrap (IntKind.u64.wrap ((IntKind.u64.wrap ((IntKind.u64.wrap (x77+4294967296))-x78))-y72)))]) rfl rfl (by first | omega | (simp only [List.length_append,List.length_cons,List.length_set]; omega) | simp))
    exact TQ.again ((IntKind.u64.wrap (1-(shrI .u64 (IntKind.u64.wrap ((IntKind.u64.wrap ((IntKind.u64.wrap (x77+4294967296))-x78))-y72)) 32))),(IntKind.i64.wrap (y73+1)),(y74++[(IntKind.u32.wrap (IntKind.u64.wrap ((IntKind.u64.wrap ((IntKind.u64.wrap (x77+4294967296))-x78))-y72)))])) (jn (m:=0) [(1,0)] hE (.l rfl<|.l rfl<|.g rfl (ren_gr (K:=(kInt .u32)) (by rfl) (y74++[(IntKind.u32.wrap (IntKind.u64.wrap ((IntKind.u64.wrap ((IntKind.u64.wrap (x77+4294967296))-x78))-y72)))]))<|.i rfl<|.i rfl<|.nil) (.cons (.refl _) (renV_gr (K:=(kInt .u32)) 77 (y74++[(IntKind.u32.wrap (IntKind.u64.wrap ((IntKind.u64.wrap ((IntKind.u64.wrap (x77+4294967296))-x78))-y72)))]))<|.nil) rfl) rfl
   ·refine .exit<|.seq_exit<|.loop_exit<|.block_exit<|.weak (h29 y74) (jn (m:=0) [(0,0)] hE (.g rfl (ren_gr (K:=(kInt .u32)) (by rfl) y74)<|.nil) (.cons (.refl _) (renV_gr (K:=(kInt .u32)) 77 y74)<|.nil) rfl)
theorem r01_Sub_p {a0:List Int} {a1:List Int} {r:(List Int) × Bool} (h:r01_Sub a0 a1=some r):Pur Tryz.prog 212 [(slK (kInt .u32) a0),(slK (kInt .u32) a1)] (.tup [(slK (kInt .u32) r.1),(.bool r.2)]):=⟨⟨_,func212,nm212,rfl⟩,r01_Sub_c a0 a1 _ h,fun _=>(.l<|.l<|.nil),fun _=>(ren_tupL (.l<|.b<|.nil))⟩
theorem r03_DivMod_c (a0:List Int) (a1:List Int):∀ r,r03_DivMod a0 a1=some r→ACalls Tryz.prog 195 [(slK (kInt .u32) a0),(slK (kInt .u32) a1)] (lw []) (.tup [(slK (kInt .u32) r.1),(slK (kInt .u32) r.2.1),(.bool r.2.2)]) (ld []):=by
 unfold r03_DivMod
 refine go 0 func195 ntmps195 rfl ?_
 intro E hE
 refine .seq<|.region<|.p (sg rfl)<|.p (sg rfl)<|.p (sg rfl)<|.nil<|.seq<|.seq<|.region<|.p (mv rfl)<|.bind fun x694 h1=>.p (c0 (r01_Trim_p h1) rfl)<|.p (sg rfl)<|.nil<|?_
 refine .seq<|.seq<|.seq<|.region<|.p (mv rfl)<|.p (ln underlying22 rfl)<|.p (ar rfl)<|.nil<|.seq<|?_
 refine T.cond_p rfl iff_eq (fun h2 h3=>?_) (fun h2 h3=>?_)
 ·refine .seq<|.region<|.p (sg rfl)<|.p (sg rfl)<|.p (sg rfl)<|.nil<|.seq<|.ret<|.seq_ret<|fin_3 (.inr rfl) (.nil _) results195 (.t rfl) (.t rfl) (.t rfl) (.tup (.cons AVle.nil (.cons AVle.nil (.cons (AVle.refl _) .nil))))
 ·refine .skip<|.seq<|.seq<|.seq<|.region<|.p (mv rfl)<|.p (ln underlying22 rfl)<|.p (ar rfl)<|.nil<|.seq<|?_
  refine T.cond_p rfl iff_eq (fun h4 h5=>?_) (fun h4 h5=>?_)
  ·refine .seq<|.region<|.p (mv rfl)<|.p (mv rfl)<|.guard fun h6=>?_
   refine TR.st 30 (.iptr [(.int .u32 (x694.getD 0 (kInt .u32).z))]) [] (snd_indexK (kInt .u32) _ _ _ _ _ _ 0 rfl underlying22 si77 rfl rfl rfl rfl h6) rfl rfl rfl ?_
   refine .p (lsi sc77 rfl)<|.p (cv underlying77 underlying117 rfl)<|.bind fun x695 h7=>.p (c0 (r03_short_p h7) rfl)<|.p (mv rfl)<|.p (xt rfl)<|.p (xt rfl)<|.p (sg rfl)<|.p (sg rfl)<|.nil<|.seq<|.seq<|.region<|.p (mv rfl)<|?_
   refine .p (mv rfl)<|.p (sg rfl)<|.p (sg rfl)<|.p (sg rfl)<|.nil<|.seq<|.ret<|.seq_ret<|fin_3 (.inr rfl) (.nil _) results195 (.t rfl) (.t rfl) (.t rfl) (AVle.refl _)
  ·refine .skip<|.seq<|.seq<|.region<|.p (mv rfl)<|.p (ln underlying22 rfl)<|.p (ar rfl)<|.p (mv rfl)<|.bind fun x696 h8=>.p (c0 (r01_Bits_p h8) rfl)<|.p (ar rfl)<|.p (sg rfl)<|.nil<|.seq<|?_
   refine .seq<|.region<|.p (mv rfl)<|.p (mv rfl)<|.bind fun x697 h9=>.p (c0 (r01_Shl_p h9) rfl)<|.p (mv rfl)<|.p (xt rfl)<|.p (xt rfl)<|.p (sg rfl)<|.nil<|.seq<|.seq<|.region<|?_
   refine .p (mv rfl)<|.p (mv rfl)<|.bind fun x698 h10=>.p (c0 (r01_Shl_p h10) rfl)<|.p (mv rfl)<|.p (xt rfl)<|.p (xt rfl)<|.p (sg rfl)<|.p (sg rfl)<|.nil<|.seq<|.seq<|.region<|.p (mv rfl)<|?_
   refine .p (ln underlying22 rfl)<|.guard fun h11=>?_
   refine TR.st 58 (.row 0 (kInt .u32).sz 0 (((List.replicate x698.1.length (kInt .u32).z)).length)) [(0,(rwK (kInt .u32) 77 (List.replicate x698.1.length (kInt .u32).z)))] (snd_makeK (kInt .u32) _ _ _ _ _ 0 _ _ _ rfl underlying22 ze77 sb77 (by decide) rfl rfl rfl rfl rfl h11) rfl rfl rfl ?_
   refine .p (sg rfl)<|.nil<|.seq<|.seq<|.region<|.p (sg rfl)<|.nil<|.seq<|.seq<|.seq<|.region<|.p (mv rfl)<|.p (ln underlying22 rfl)<|.p (ar rfl)<|?_
   refine .p (sg rfl)<|.nil<|.seq<|?_
   refine T.cut (X:=(List Int) × (List Int)) (fun x=>r03_DivMod_j1 x694 x696 x.1 x.2) (fun x=>(mkS [(10,some (.int .i64 (IntKind.i64.wrap ((IntKind.i64.wrap (32*(x694.length:Int)))-x696)))),(13,some (.row 0 (kInt .u32).sz 0 ((x.2).length))),(14,some (slK (kInt .u32) x.1))] [(0,(rwK (kInt .u32) 77 x.2))])) ?_ ?_
   ·rintro ⟨y1041,y1042⟩
    dsimp only [r03_DivMod_j1]
    refine .seq<|.seq<|?_
    refine T.weak ?_ (fun a w h=>Conc.freezeK (kInt .u32) h 13 0 0 ((y1042).length) 77 y1042 rfl rfl (by omega))
    refine T.weak ?_ (fun a w h=>take_all h)
    refine .region<|.p (mv rfl)<|.bind fun x1043 h354=>.p (c0 (r01_Trim_p h354) rfl)<|.p (mv rfl)<|.p (mv rfl)<|.bind fun x1044 h355=>.p (c0 (r01_Shr_p h355) rfl)<|.p (sg rfl)<|.p (sg rfl)<|.p (sg rfl)<|.nil<|.seq<|.ret<|fin_3 (.inr rfl) (.nil _) results195 (.t rfl) (.t rfl) (.t rfl) (AVle.refl _)
   ·intro h356
    refine .block<|?_
    refine T.weak ?_ (fun a w h=>Conc.noV (Conc.put1 (x:=0) h (t:=14) (v':=slK (kInt .u32) []) rfl rfl AVle.nil (.refl _)))
    refine .loopW (X:=(List Int) × Int × (List Int)) (fun n x=>r03_DivMod_l2 x698 x697 x694 x696 n x.1 x.2.1 x.2.2) (fun x=>(mkS [(7,some (slK (kInt .u32) x697.1)),(10,some (.int .i64 (IntKind.i64.wrap ((IntKind.i64.wrap (32*(x694.length:Int)))-x696)))),(11,some (slK (kInt .u32) x698.1)),(13,some (.row 0 (kInt .u32).sz 0 ((x.2.2).length))),(14,some (slK (kInt .u32) x.1)),(15,some (.int .i64 x.2.1))] [(0,(rwK (kInt .u32) 77 x.2.2))])) ([],(IntKind.i64.wrap ((x698.1.length:Int)-1)),(List.replicate x698.1.length (kInt .u32).z)) (jn (m:=0) [(0,0)] hE (.l rfl<|.i rfl<|.l rfl<|.g rfl (.row _ _ _ _ _ rfl)<|.l rfl<|.i rfl<|.nil) (.cons (.refl _) (renV_rw _ _)<|.nil) rfl) (fun _=>rfl) rfl<|?_
    rintro n2 ⟨y1272,y1273,y1274⟩
    try dsimp only
    rw [r03_DivMod_l2]
    refine .seq<|.seq<|.region<|.p (mv rfl)<|.p (ar rfl)<|.nil<|.seq<|?_
    refine T.cond_p rfl iff_dec (fun h585 h586=>?_) (fun h585 h586=>?_)
    ·refine .skip<|.seq<|.seq<|?_
     refine T.cut (X:=(List Int) × (List Int)) (fun x=>r03_DivMod_j3 (fun z0 z1 z2=>r03_DivMod_l2 x698 x697 x694 x696 n2 z0 z1 z2) y1273 x.1 x.2) (fun x=>(mkS [(7,some (slK (kInt .u32) x697.1)),(10,some (.int .i64 (IntKind.i64.wrap ((IntKind.i64.wrap (32*(x694.length:Int)))-x696)))),(11,some (slK (kInt .u32) x698.1)),(13,some (.row 0 (kInt .u32).sz 0 ((x.2).length))),(14,some (slK (kInt .u32) x.1)),(15,some (.int .i64 y1273))] [(0,(rwK (kInt .u32) 77 x.2))])) ?_ ?_
     ·rintro ⟨y1330,y1331⟩
      dsimp only [r03_DivMod_j3]
      refine .seq<|.region<|.p (mv rfl)<|.p (ar rfl)<|.p (sg rfl)<|.nil<|.again (y1330,(IntKind.i64.wrap (y1273-1)),y1331) (jn (m:=0) [(0,0)] hE (.l rfl<|.i rfl<|.l rfl<|.g rfl (.row _ _ _ _ _ rfl)<|.l rfl<|.i rfl<|.nil) (.cons (.refl _) (renV_rw _ _)<|.nil) rfl) rfl
     ·intro h643
      refine .block<|.seq<|.region<|.p (mv rfl)<|.p (mv rfl)<|.guard fun h644=>?_
      refine TR.st 68 (.iptr [(.int .u32 (x698.1.getD y1273.toNat (kInt .u32).z))]) [] (snd_indexK (kInt .u32) _ _ _ _ _ _ y1273 rfl underlying22 si77 rfl rfl rfl rfl h644) rfl rfl rfl ?_
      refine .p (lsi sc77 rfl)<|?_
      refine TR.st 70 (.row 1 (kInt .u32).sz 0 (([(x698.1.getD y1273.toNat (kInt .u32).z)]).length)) [(1,(rwK (kInt .u32) 77 [(x698.1.getD y1273.toNat (kInt .u32).z)]))] (snd_buildSliceK_row (kInt .u32) _ _ 1 1 _ _ [(0,(.int .u32 (x698.1.getD y1273.toNat (kInt .u32).z)))] [(x698.1.getD y1273.toNat (kInt .u32).z)] rfl underlying22 ze77 si77 rfl rfl rfl rfl (by decide) (by decide) (by decide) rfl rfl rfl) rfl rfl rfl ?_
      refine .p (mv rfl)<|.guard fun h645=>?_
      refine TR.st 72 (.row 2 (kInt .u32).sz 0 ((([(x698.1.getD y1273.toNat (kInt .u32).z)]++y1272)).length)) [(2,(rwK (kInt .u32) 77 ([(x698.1.getD y1273.toNat (kInt .u32).z)]++y1272))),(1,.dead)] (snd_appendK0 (kInt .u32) _ _ _ _ _ 1 2 [(x698.1.getD y1273.toNat (kInt .u32).z)] y1272 rfl underlying22 ze77 sb77 rfl rfl rfl rfl rfl rfl h645) rfl rfl rfl ?_
      refine TR.weak ?_ (fun a w h=>Conc.freezeK (kInt .u32) h 72 2 0 ((([(x698.1.getD y1273.toNat (kInt .u32).z)]++y1272)).length) 77 ([(x698.1.getD y1273.toNat (kInt .u32).z)]++y1272) rfl rfl (by omega))
      refine TR.weak ?_ (fun a w h=>take_all h)
      refine .bind fun x1332 h646=>.p (c0 (r01_Trim_p h646) rfl)<|.p (sg rfl)<|.nil<|.seq<|.seq<|.region<|.p (mv rfl)<|.p (mv rfl)<|.bind fun x1333 h647=>.p (c0 (r03_guess_p h647) rfl)<|.p (sg rfl)<|.nil<|.seq<|?_
      refine .seq<|.region<|.p (mv rfl)<|.p (mv rfl)<|.p (mv rfl)<|.bind fun x1334 h648=>.p (c0 (r01_From_p h648) rfl)<|.bind fun x1335 h649=>.p (c0 (r01_Mul_p h649) rfl)<|.bind fun x1336 h650=>.p (c0 (r01_Sub_p h650) rfl)<|.p (mv rfl)<|.p (xt rfl)<|.p (xt rfl)<|?_
      refine .p (sg rfl)<|.p (sg rfl)<|.nil<|.seq<|.seq<|?_
      refine T.cut (X:=Int × (List Int)) (fun x=>r03_DivMod_j4 y1273 y1274 (fun z0 z1 z2=>r03_DivMod_l2 x698 x697 x694 x696 n2 z0 z1 z2) x.1 x.2) (fun x=>(mkS [(7,some (slK (kInt .u32) x697.1)),(10,some (.int .i64 (IntKind.i64.wrap ((IntKind.i64.wrap (32*(x694.length:Int)))-x696)))),(11,some (slK (kInt .u32) x698.1)),(13,some (.row 0 (kInt .u32).sz 0 ((y1274).length))),(15,some (.int .i64 y1273)),(16,some (.int .u64 x.1)),(17,some (slK (kInt .u32) x.2))] [(0,(rwK (kInt .u32) 77 y1274))])) ?_ ?_
      ·rintro ⟨y1361,y1362⟩
       dsimp only [r03_DivMod_j4]
       refine .seq<|.seq<|.region<|.p (mv rfl)<|.p (mv rfl)<|.p (mv rfl)<|.p (cv underlying117 underlying77 rfl)<|.guard fun h675=>?_
       obtain ⟨h6751,h6752⟩:=h675
       refine TR.st 103 (.rptr 0 (kInt .u32).sz y1273.toNat 0) [] (idx_r (snd_index_r _ _ _ _ _ 0 0 ((y1274).length) _ y1273 rfl underlying22 si77 rfl rfl rfl rfl h6751 (by omega)) (Nat.zero_add _)) rfl rfl rfl ?_
       refine TR.sn [(0,(rwK (kInt .u32) 77 ((y1274).set y1273.toNat (IntKind.u32.wrap y1361))))] (snd_storeK_sca (kInt .u32) _ _ _ 0 y1273.toNat _ _ (IntKind.u32.wrap y1361) _ rfl rfl rfl sc77 rfl rfl rfl rfl rfl rfl (by first | omega | (simp only [List.length_set]; omega))) rfl rfl ?_
       refine TR.weak ?_ (fun a w h=>Conc.relen h 13 ((((y1274).set y1273.toNat (IntKind.u32.wrap y1361))).length) rfl List.length_set.symm)
       refine .nil<|.seq<|.region<|.p (mv rfl)<|.p (sg rfl)<|.nil<|.block<|.weak (h643 (y1362,((y1274).set y1273.toNat (IntKind.u32.wrap y1361)))) (jn (m:=0) [(0,0)] hE (.l rfl<|.i rfl<|.l rfl<|.g rfl (.row _ _ _ _ _ rfl)<|.l rfl<|.i rfl<|.nil) (.cons (.refl _) (renV_rw _ _)<|.nil) rfl)
      ·intro h676
       refine .block<|.loopW (X:=Int × (List Int) × Bool) (fun n x=>r03_DivMod_l5 x697 x1332 y1273 y1274 (fun z0 z1 z2=>r03_DivMod_l2 x698 x697 x694 x696 n2 z0 z1 z2) n x.1 x.2.1 x.2.2) (fun x=>(mkS [(7,some (slK (kInt .u32) x697.1)),(10,some (.int .i64 (IntKind.i64.wrap ((IntKind.i64.wrap (32*(x694.length:Int)))-x696)))),(11,some (slK (kInt .u32) x698.1)),(13,some (.row 0 (kInt .u32).sz 0 ((y1274).length))),(14,some (slK (kInt .u32) x1332)),(15,some (.int .i64 y1273)),(16,some (.int .u64 x.1)),(17,some (slK (kInt .u32) x.2.1)),(18,some (.bool x.2.2))] [(0,(rwK (kInt .u32) 77 y1274))])) (x1333,x1336.1,x1336.2) (jn (m:=0) [(0,0)] hE (.l rfl<|.i rfl<|.l rfl<|.g rfl (.row _ _ _ _ _ rfl)<|.l rfl<|.i rfl<|.i rfl<|.l rfl<|.b rfl<|.nil) (.cons (.refl _) (renV_rw _ _)<|.nil) rfl) (fun _=>rfl) rfl<|?_
       rintro n5 ⟨y1378,y1379,y1380⟩
       try dsimp only
       rw [r03_DivMod_l5]
       refine .seq<|.seq<|.region<|.p (mv rfl)<|.p (un rfl)<|.nil<|.seq<|?_
       refine T.cond_p rfl iff_nb (fun h693 h694=>?_) (fun h693 h694=>?_)
       ·refine .skip<|.seq<|.block<|.seq<|.region<|.p (mv rfl)<|.p (ar rfl)<|.p (sg rfl)<|.nil<|.seq<|.region<|.p (mv rfl)<|.p (mv rfl)<|.p (mv rfl)<|?_
        refine .bind fun x1384 h698=>.p (c0 (r01_From_p h698) rfl)<|.bind fun x1385 h699=>.p (c0 (r01_Mul_p h699) rfl)<|.bind fun x1386 h700=>.p (c0 (r01_Sub_p h700) rfl)<|.p (mv rfl)<|.p (xt rfl)<|.p (xt rfl)<|.p (sg rfl)<|.p (sg rfl)<|.nil<|.block<|.again ((IntKind.u64.wrap (y1378-1)),x1386.1,x1386.2) (jn (m:=0) [(0,0)] hE (.l rfl<|.i rfl<|.l rfl<|.g rfl (.row _ _ _ _ _ rfl)<|.l rfl<|.i rfl<|.i rfl<|.l rfl<|.b rfl<|.nil) (.cons (.refl _) (renV_rw _ _)<|.nil) rfl) rfl
       ·refine .exit<|.seq_exit<|.loop_exit<|.block_exit<|.weak (h676 (y1378,y1379)) (jn (m:=0) [(0,0)] hE (.l rfl<|.i rfl<|.l rfl<|.g rfl (.row _ _ _ _ _ rfl)<|.i rfl<|.i rfl<|.l rfl<|.nil) (.cons (.refl _) (renV_rw _ _)<|.nil) rfl)
    ·refine .exit<|.seq_exit<|.loop_exit<|.block_exit<|.weak (h356 (y1272,y1274)) (jn (m:=0) [(0,0)] hE (.i rfl<|.g rfl (.row _ _ _ _ _ rfl)<|.l rfl<|.nil) (.cons (.refl _) (renV_rw _ _)<|.nil) rfl)
theorem r03_DivMod_p {a0:List Int} {a1:List Int} {r:(List Int) × (List Int) × Bool} (h:r03_DivMod a0 a1=some r):Pur Tryz.prog 195 [(slK (kInt .u32) a0),(slK (kInt .u32) a1)] (.tup [(slK (kInt .u32) r.1),(slK (kInt .u32) r.2.1),(.bool r.2.2)]):=⟨⟨_,func195,nm195,rfl⟩,r03_DivMod_c a0 a1 _ h,fun _=>(.l<|.l<|.nil),fun _=>(ren_tupL (.l<|.l<|.b<|.nil))⟩
theorem r01_Add_c (a0:List Int) (a1:List Int):∀ r,r01_Add a0 a1=some r→ACalls Tryz.prog 214 [(slK (kInt .u32) a0),(slK (kInt .u32) a1)] (lw []) (slK (kInt .u32) r) (ld []):=by
 unfold r01_Add
 refine go 0 func214 ntmps214 rfl ?_
 intro E hE
 refine .seq<|.region<|.p (sg rfl)<|.nil<|.seq<|.seq<|.region<|.p (sg rfl)<|.nil<|.seq<|.seq<|.region<|.p (sg rfl)<|.nil<|?_
 refine .seq<|.seq<|.seq<|.region<|.p (sg rfl)<|.nil<|.seq<|?_
 refine T.cut (X:=(List Int)) (fun x=>r01_Add_j1 x) (fun x=>(mkS [(5,some (grA (kInt .u32) 0 x))] [(0,(grV (kInt .u32) 77 x))])) ?_ ?_
 ·rintro y57
  dsimp only [r01_Add_j1]
  refine .seq<|.seq<|?_
  refine T.weak ?_ (fun a w h=>Conc.gr_still (kInt .u32) h 5 0 77 y57 rfl rfl)
  refine .region<|.p (mv rfl)<|.bind fun x58 h25=>.p (c0 (r01_Trim_p h25) rfl)<|.p (sg rfl)<|.nil<|.seq<|.ret<|fin_1 (.inr rfl) (.nil _) results214 (.t rfl) (AVle.refl _)
 ·intro h26
  refine .block<|?_
  refine T.weak ?_ (fun a w h=>Conc.gr_nil (kInt .u32) h 5 0 77 rfl)
  refine .loopW (X:=Int × Int × (List Int)) (fun n x=>r01_Add_l2 a0 a1 n x.1 x.2.1 x.2.2) (fun x=>(mkS [(0,some (slK (kInt .u32) a0)),(1,some (slK (kInt .u32) a1)),(5,some (grA (kInt .u32) 0 x.2.2)),(6,some (.int .u64 x.1)),(7,some (.int .i64 x.2.1))] [(0,(grV (kInt .u32) 77 x.2.2))])) (0,0,[]) (jn (m:=0) [(0,0)] hE (.l rfl<|.l rfl<|.g rfl (ren_gr (K:=(kInt .u32)) (by rfl) [])<|.i rfl<|.i rfl<|.nil) (.cons (.refl _) (renV_gr (K:=(kInt .u32)) 77 [])<|.nil) rfl) (fun _=>rfl) rfl<|?_
  rintro n2 ⟨y70,y71,y72⟩
  try dsimp only
  rw [r01_Add_l2]
  refine .seq<|.seq<|.region<|.p (mv rfl)<|.p (mv rfl)<|.p (ln underlying22 rfl)<|.p (mv rfl)<|.p (ln underlying22 rfl)<|?_
  refine TR.st 14 (.int .i64 (mx (a0.length:Int) (a1.length:Int))) [] (snd_max _ _ _ _ _ _ rfl rfl rfl rfl rfl) rfl rfl rfl ?_
  refine .p (ar rfl)<|.p (ar rfl)<|.nil<|.seq<|?_
  refine T.cond_p rfl iff_dec (fun h43 h44=>?_) (fun h43 h44=>?_)
  ·refine .skip<|.seq<|.seq<|.block<|.seq<|.region<|.p (mv rfl)<|.p (mv rfl)<|.bind fun x75 h48=>.p (c0 (r01_at_p h48) rfl)<|.p (mv rfl)<|.p (mv rfl)<|.bind fun x76 h49=>.p (c0 (r01_at_p h49) rfl)<|?_
   refine .p (ar rfl)<|.p (mv rfl)<|.p (ar rfl)<|.p (sg rfl)<|.nil<|.seq<|.seq<|.region<|.p (mv rfl)<|.p (mv rfl)<|.p (cv underlying117 underlying77 rfl)<|?_
   refine TR.st 31 (slK (kInt .u32) [(IntKind.u32.wrap (IntKind.u64.wrap ((IntKind.u64.wrap (x75+x76))+y70)))]) [] (snd_buildSlice _ _ _ 1 _ _ [(0,(.int .u32 (IntKind.u32.wrap (IntKind.u64.wrap ((IntKind.u64.wrap (x75+x76))+y70)))))] (List.map (kInt .u32).enc [(IntKind.u32.wrap (IntKind.u64.wrap ((IntKind.u64.wrap (x75+x76))+y70)))]) rfl underlying22 ze77 si77 rfl rfl rfl (by decide) (by decide) (by decide) rfl rfl (Kd.even _) rfl) rfl rfl rfl ?_
   refine .guard fun h50=>?_
   refine TR.st 32 (.row 1 (kInt .u32).sz 0 (((y72++[(IntKind.u32.wrap (IntKind.u64.wrap ((IntKind.u64.wrap (x75+x76))+y70)))])).length)) [(1,(rwK (kInt .u32) 77 (y72++[(IntKind.u32.wrap (IntKind.u64.wrap ((IntKind.u64.wrap (x75+x76))+y70)))]))),(0,.dead)] (snd_appendK_gr (kInt .u32) _ _ _ _ _ 0 1 y72 [(IntKind.u32.wrap (IntKind.u64.wrap ((IntKind.u64.wrap (x75+x76))+y70)))] rfl underlying22 ze77 sb77 rfl rfl rfl rfl rfl rfl rfl h50) rfl rfl rfl ?_
   refine .p (sg rfl)<|.nil<|.seq<|.region<|.p (mv rfl)<|?_
   refine TR.st 34 (.int .u64 (shrI .u64 (IntKind.u64.wrap ((IntKind.u64.wrap (x75+x76))+y70)) 32)) [] (snd_shr _ _ _ _ _ _ _ _ rfl rfl rfl rfl rfl (by decide)) rfl rfl rfl ?_
   refine .p (sg rfl)<|.nil<|.block<|.seq<|.region<|.p (mv rfl)<|.p (ar rfl)<|.p (sg rfl)<|.nil<|?_
   refine TQ.weak ?_ (fun a w h=>Conc.gr_row (kInt .u32) h 5 1 77 (y72++[(IntKind.u32.wrap (IntKind.u64.wrap ((IntKind.u64.wrap (x75+x76))+y70)))]) rfl rfl (by first | omega | (simp only [List.length_append,List.length_cons,List.length_set]; omega) | simp))
   exact TQ.again ((shrI .u64 (IntKind.u64.wrap ((IntKind.u64.wrap (x75+x76))+y70)) 32),(IntKind.i64.wrap (y71+1)),(y72++[(IntKind.u32.wrap (IntKind.u64.wrap ((IntKind.u64.wrap (x75+x76))+y70)))])) (jn (m:=0) [(1,0)] hE (.l rfl<|.l rfl<|.g rfl (ren_gr (K:=(kInt .u32)) (by rfl) (y72++[(IntKind.u32.wrap (IntKind.u64.wrap ((IntKind.u64.wrap (x75+x76))+y70)))]))<|.i rfl<|.i rfl<|.nil) (.cons (.refl _) (renV_gr (K:=(kInt .u32)) 77 (y72++[(IntKind.u32.wrap (IntKind.u64.wrap ((IntKind.u64.wrap (x75+x76))+y70)))]))<|.nil) rfl) rfl
  ·refine .exit<|.seq_exit<|.loop_exit<|.block_exit<|.weak (h26 y72) (jn (m:=0) [(0,0)] hE (.g rfl (ren_gr (K:=(kInt .u32)) (by rfl) y72)<|.nil) (.cons (.refl _) (renV_gr (K:=(kInt .u32)) 77 y72)<|.nil) rfl)
theorem r01_Add_p {a0:List Int} {a1:List Int} {r:(List Int)} (h:r01_Add a0 a1=some r):Pur Tryz.prog 214 [(slK (kInt .u32) a0),(slK (kInt .u32) a1)] (slK (kInt .u32) r):=⟨⟨_,func214,nm214,rfl⟩,r01_Add_c a0 a1 _ h,fun _=>(.l<|.l<|.nil),fun _=>(ren_sl _)⟩
theorem r05_cut_c (a0:Bool) (a1:List Int) (a2:Int) (a3:Bool) (a4:Int) (a5:Bool):∀ r,r05_cut a0 a1 a2 a3 a4 a5=some r→ACalls Tryz.prog 197 [(.bool a0),(slK (kInt .u32) a1),(.int .i64 a2),(.bool a3),(.int .i64 a4),(.bool a5)] (lw []) (.agg (kD.enc (⟨((r).M),(r).E⟩:AD))) (ld []):=by
 unfold r05_cut
 refine go 0 func197 ntmps197 rfl ?_
 intro E hE
 refine .seq<|.region<|.w (al 0 ze26 rfl)<|.nil<|.seq<|.seq<|.region<|.p (mv rfl)<|.bind fun x20 h1=>.p (c0 (r01_Bits_p h1) rfl)<|.p (mv rfl)<|.p (ar rfl)<|.p (sg rfl)<|.nil<|?_
 refine .seq<|.seq<|.seq<|.region<|.p (mv rfl)<|.p (ar rfl)<|.nil<|.seq<|?_
 refine T.cut (X:=(List Int) × Int × Bool) (fun x=>r05_cut_j1 a0 a5 x.1 x.2.1 x.2.2) (fun x=>(mkS [(0,some (.bool a0)),(1,some (slK (kInt .u32) x.1)),(2,some (.int .i64 x.2.1)),(3,some (.bool x.2.2)),(5,some (.bool a5)),(12,some (.ptr 0 0))] [(0,(.live 26 [(.bool false),(slK (kInt .u32) []),(.int .i64 0)]))])) ?_ ?_
 ·rintro ⟨y26,y27,y28⟩
  dsimp only [r05_cut_j1]
  refine .seq<|.seq<|.seq<|?_
  refine T.cut (X:=Bool) (fun x=>r05_cut_j2 y26 a0 y27 x) (fun x=>(mkS [(0,some (.bool a0)),(1,some (slK (kInt .u32) y26)),(2,some (.int .i64 y27)),(12,some (.ptr 0 0)),(46,some (.bool x))] [(0,(.live 26 [(.bool false),(slK (kInt .u32) []),(.int .i64 0)]))])) ?_ ?_
  ·rintro y29
   dsimp only [r05_cut_j2]
   refine .seq<|?_
   refine T.cut (X:=(List Int)) (fun x=>r05_cut_j3 a0 y27 x) (fun x=>(mkS [(0,some (.bool a0)),(1,some (slK (kInt .u32) x)),(2,some (.int .i64 y27)),(12,some (.ptr 0 0))] [(0,(.live 26 [(.bool false),(slK (kInt .u32) []),(.int .i64 0)]))])) ?_ ?_
   ·rintro y31
    dsimp only [r05_cut_j3]
    refine .seq<|.seq<|.region<|.p (mv rfl)<|.p (mv rfl)<|.p (bd ze24 pl24 rfl)<|.p (mv rfl)<|.bind fun x32 h14=>.p (c0 (r05_norm_p h14) rfl)<|.n (sa ag26 rfl)<|.nil<|.seq<|.ret<|fin_1 (.inr rfl) (.nil _) results197 (.a ag26 rfl) (AVle.refl _)
   ·intro h15
    refine T.cond_p rfl iff_b (fun h16 h17=>?_) (fun h16 h17=>?_)
    ·refine .region<|.p (mv rfl)<|?_
     refine TR.st 48 (slK (kInt .u32) [1]) [] (snd_buildSlice _ _ _ 1 _ _ [(0,(.int .u32 1))] (List.map (kInt .u32).enc [1]) rfl underlying22 ze77 si77 rfl rfl rfl (by decide) (by decide) (by decide) rfl rfl (Kd.even _) rfl) rfl rfl rfl ?_
     refine .bind fun x33 h18=>.p (c0 (r01_Add_p h18) rfl)<|.p (sg rfl)<|.nil<|.weak (h15 x33) (jn (m:=0) [(0,0)] hE (.b rfl<|.l rfl<|.i rfl<|.p rfl rfl<|.nil) (.v rfl (.b<|.l<|.i<|.nil)<|.nil) rfl)
    ·refine .skip<|.weak (h15 y26) (jn (m:=0) [(0,0)] hE (.b rfl<|.l rfl<|.i rfl<|.p rfl rfl<|.nil) (.v rfl (.b<|.l<|.i<|.nil)<|.nil) rfl)
  ·intro h19
   refine .region<|.p (mv rfl)<|.p (mv rfl)<|?_
   refine TR.gd 44 _ rfl iff_b (fun h20=>?_) (fun h20=>?_)
   ·refine .p (mv rfl)<|.p (pt rfl)<|.nil<|.weak (h19 a5) (jn (m:=0) [(0,0)] hE (.b rfl<|.l rfl<|.i rfl<|.p rfl rfl<|.b rfl<|.nil) (.v rfl (.b<|.l<|.i<|.nil)<|.nil) rfl)
   ·refine .k rfl<|.p (pf rfl)<|.nil<|.weak (h19 false) (jn (m:=0) [(0,0)] hE (.b rfl<|.l rfl<|.i rfl<|.p rfl rfl<|.b rfl<|.nil) (.v rfl (.b<|.l<|.i<|.nil)<|.nil) rfl)
 ·intro h21
  refine T.cond_p rfl iff_dec (fun h22 h23=>?_) (fun h22 h23=>?_)
  ·refine .seq<|.region<|.p (mv rfl)<|.p (mv rfl)<|.bind fun x34 h24=>.p (c0 (r01_Shr_p h24) rfl)<|.p (sg rfl)<|.nil<|.seq<|.seq<|.region<|.p (mv rfl)<|.p (mv rfl)<|.bind fun x35 h25=>?_
   refine .p (c0 (r01_Shl_p h25) rfl)<|.p (mv rfl)<|.p (xt rfl)<|.p (xt rfl)<|.p (sg rfl)<|.p (sg rfl)<|.nil<|.seq<|.seq<|?_
   refine T.cut (X:=Bool) (fun x=>r05_cut_j4 a0 a5 x34 a2 x20 a4 x) (fun x=>(mkS [(0,some (.bool a0)),(2,some (.int .i64 a2)),(3,some (.bool x)),(5,some (.bool a5)),(12,some (.ptr 0 0)),(13,some (.int .i64 (IntKind.i64.wrap (x20-a4)))),(14,some (slK (kInt .u32) x34))] [(0,(.live 26 [(.bool false),(slK (kInt .u32) []),(.int .i64 0)]))])) ?_ ?_
   ·rintro y37
    dsimp only [r05_cut_j4]
    refine .seq<|.seq<|.region<|.p (mv rfl)<|.p (sg rfl)<|.nil<|.seq<|.region<|.p (mv rfl)<|.p (mv rfl)<|.p (ar rfl)<|.p (sg rfl)<|.nil<|.weak (h21 (x34,(IntKind.i64.wrap (a2+(IntKind.i64.wrap (x20-a4)))),y37)) (jn (m:=0) [(0,0)] hE (.b rfl<|.l rfl<|.i rfl<|.b rfl<|.b rfl<|.p rfl rfl<|.nil) (.v rfl (.b<|.l<|.i<|.nil)<|.nil) rfl)
   ·intro h28
    refine .region<|.p (mv rfl)<|.p (mv rfl)<|?_
    refine TR.gd 33 _ rfl iff_b (fun h29=>?_) (fun h29=>?_)
    ·refine .k rfl<|.k rfl<|.k rfl<|.k rfl<|.p (pt rfl)<|.p (sg rfl)<|.nil<|.weak (h28 true) (jn (m:=0) [(0,0)] hE (.b rfl<|.i rfl<|.b rfl<|.b rfl<|.p rfl rfl<|.i rfl<|.l rfl<|.nil) (.v rfl (.b<|.l<|.i<|.nil)<|.nil) rfl)
    ·refine .p (mv rfl)<|.p (mv rfl)<|.bind fun x38 h30=>.p (c0 (r01_Cmp_p h30) rfl)<|.p (ar rfl)<|.p (pf rfl)<|.p (sg rfl)<|.nil<|.weak (h28 (x38 != 0)) (jn (m:=0) [(0,0)] hE (.b rfl<|.i rfl<|.b rfl<|.b rfl<|.p rfl rfl<|.i rfl<|.l rfl<|.nil) (.v rfl (.b<|.l<|.i<|.nil)<|.nil) rfl)
  ·refine .skip<|.weak (h21 (a1,a2,a3)) (jn (m:=0) [(0,0)] hE (.b rfl<|.l rfl<|.i rfl<|.b rfl<|.b rfl<|.p rfl rfl<|.nil) (.v rfl (.b<|.l<|.i<|.nil)<|.nil) rfl)
theorem r05_cut_p {a0:Bool} {a1:List Int} {a2:Int} {a3:Bool} {a4:Int} {a5:Bool} {r:AD} (h:r05_cut a0 a1 a2 a3 a4 a5=some r):Pur Tryz.prog 197 [(.bool a0),(slK (kInt .u32) a1),(.int .i64 a2),(.bool a3),(.int .i64 a4),(.bool a5)] (.agg (kD.enc (⟨((r).M),(r).E⟩:AD))):=⟨⟨_,func197,nm197,rfl⟩,r05_cut_c a0 a1 a2 a3 a4 a5 _ h,fun _=>(.b<|.l<|.i<|.b<|.i<|.b<|.nil),fun _=>(ren_agg (K:=kD) _)⟩
theorem r05_inRange_c (a0:AD):∀ r,r05_inRange a0=some r→ACalls Tryz.prog 152 [(.agg (kD.enc a0))] (lw []) (.bool r) (ld []):=by
 unfold r05_inRange
 refine go 0 func152 ntmps152 rfl ?_
 intro E hE
 refine .seq<|.region<|.w (bx 0 rfl)<|.p (sg rfl)<|.nil<|.seq<|.seq<|.seq<|.region<|.p (fa 0 fl26_0 rfl)<|.p (fa 1 fl24_1 rfl)<|.p (ls sc22 rfl)<|.p (ln underlying22 rfl)<|.p (ar rfl)<|?_
 refine .nil<|.seq<|?_
 refine T.cond_p rfl iff_eq (fun h1 h2=>?_) (fun h1 h2=>?_)
 ·refine .seq<|.region<|.p (sg rfl)<|.nil<|.seq<|.ret<|.seq_ret<|fin_1 (.inr rfl) (.nil _) results152 (.t rfl) (AVle.refl _)
 ·refine .skip<|.seq<|.seq<|.region<|.p (la ag26 rfl)<|.bind fun x5 h3=>.p (c0 (r05_size_p h3) rfl)<|.p (sg rfl)<|.nil<|.seq<|.seq<|?_
  refine T.cut (X:=Bool) (fun x=>r05_inRange_j1 x) (fun x=>(mkS [(2,some (.bool x))] [])) ?_ ?_
  ·rintro y7
   dsimp only [r05_inRange_j1]
   refine .seq<|.ret<|fin_1 (.inr rfl) (.nil _) results152 (.t rfl) (AVle.refl _)
  ·intro h9
   refine .region<|.p (mv rfl)<|.p (ar rfl)<|.p (mv rfl)<|?_
   refine TR.gd 13 _ rfl iff_dec (fun h10=>?_) (fun h10=>?_)
   ·refine .p (mv rfl)<|.p (ar rfl)<|.p (pt rfl)<|.p (mv rfl)<|?_
    refine TR.gd 17 _ rfl iff_dec (fun h11=>?_) (fun h11=>?_)
    ·refine .p (fa 2 fl26_1 rfl)<|.p (ls sc3 rfl)<|.p (ar rfl)<|.p (pt rfl)<|.p (mv rfl)<|?_
     refine TR.gd 22 _ rfl iff_dec (fun h12=>?_) (fun h12=>?_)
     ·refine .p (fa 2 fl26_1 rfl)<|.p (ls sc3 rfl)<|.p (ar rfl)<|.p (pt rfl)<|.p (mv rfl)<|?_
      refine TR.gd 27 _ rfl iff_dec (fun h13=>?_) (fun h13=>?_)
      ·refine .p (fa 0 fl26_0 rfl)<|.p (fa 1 fl24_1 rfl)<|.p (ls sc22 rfl)<|.bind fun x8 h14=>.p (c0 (r01_Bits_p h14) rfl)<|.p (ar rfl)<|.p (pt rfl)<|.p (sg rfl)<|.nil<|.weak (h9 (decide (x8≤262144))) (jn (m:=0) [] hE (.b rfl<|.nil) .nil rfl)
      ·refine .k rfl<|.k rfl<|.k rfl<|.k rfl<|.k rfl<|.p (pf rfl)<|.p (sg rfl)<|.nil<|.weak (h9 false) (jn (m:=0) [] hE (.b rfl<|.nil) .nil rfl)
     ·refine .k rfl<|.k rfl<|.k rfl<|.p (pf rfl)<|.p (mv rfl)<|.k rfl<|.k rfl<|.k rfl<|.k rfl<|.k rfl<|.p (pf rfl)<|.p (sg rfl)<|.nil<|.weak (h9 false) (jn (m:=0) [] hE (.b rfl<|.nil) .nil rfl)
    ·refine .k rfl<|.k rfl<|.k rfl<|.p (pf rfl)<|.p (mv rfl)<|.k rfl<|.k rfl<|.k rfl<|.p (pf rfl)<|.p (mv rfl)<|.k rfl<|.k rfl<|.k rfl<|.k rfl<|?_
     refine .k rfl<|.p (pf rfl)<|.p (sg rfl)<|.nil<|.weak (h9 false) (jn (m:=0) [] hE (.b rfl<|.nil) .nil rfl)
   ·refine .k rfl<|.k rfl<|.p (pf rfl)<|.p (mv rfl)<|.k rfl<|.k rfl<|.k rfl<|.p (pf rfl)<|.p (mv rfl)<|.k rfl<|.k rfl<|.k rfl<|.p (pf rfl)<|.p (mv rfl)<|?_
    refine .k rfl<|.k rfl<|.k rfl<|.k rfl<|.k rfl<|.p (pf rfl)<|.p (sg rfl)<|.nil<|.weak (h9 false) (jn (m:=0) [] hE (.b rfl<|.nil) .nil rfl)
theorem r05_inRange_p {a0:AD} {r:Bool} (h:r05_inRange a0=some r):Pur Tryz.prog 152 [(.agg (kD.enc a0))] (.bool r):=⟨⟨_,func152,nm152,rfl⟩,r05_inRange_c a0 _ h,fun _=>(.a kD<|.nil),fun _=>(.bool _)⟩
theorem r05_told_c (a0:AD):∀ r,r05_told a0=some r→ACalls Tryz.prog 196 [(.agg (kD.enc a0))] (lw []) (.tup [(.agg (kD.enc (⟨((r.1).M),(r.1).E⟩:AD))),(.int .i64 r.2)]) (ld []):=by
 unfold r05_told
 refine go 0 func196 ntmps196 rfl ?_
 intro E hE
 refine .seq<|.region<|.w (bx 0 rfl)<|.w (al 1 ze26 rfl)<|.p (sg rfl)<|.nil<|.seq<|.seq<|.region<|.p (la ag26 rfl)<|.bind fun x2 h1=>.p (c0 (r05_inRange_p h1) rfl)<|.p (sg rfl)<|.nil<|?_
 refine .seq<|.seq<|.seq<|.region<|.p (mv rfl)<|.p (un rfl)<|.nil<|.seq<|?_
 refine T.cond_p rfl iff_nb (fun h2 h3=>?_) (fun h2 h3=>?_)
 ·refine .seq<|.region<|.p (bd ze26 pl26 rfl)<|.n (sa ag26 rfl)<|.p (sg rfl)<|.nil<|.seq<|.ret<|.seq_ret<|fin_2 (.inr rfl) (.nil _) results196 (.a ag26 rfl) (.t rfl) (AVle.refl _)
 ·refine .skip<|.seq<|.seq<|.region<|.p (la ag26 rfl)<|.n (sa ag26 rfl)<|.p (sg rfl)<|.nil<|.seq<|.ret<|fin_2 (.inr rfl) (.nil _) results196 (.a ag26 rfl) (.t rfl) (AVle.refl _)
theorem r05_told_p {a0:AD} {r:AD × Int} (h:r05_told a0=some r):Pur Tryz.prog 196 [(.agg (kD.enc a0))] (.tup [(.agg (kD.enc (⟨((r.1).M),(r.1).E⟩:AD))),(.int .i64 r.2)]):=⟨⟨_,func196,nm196,rfl⟩,r05_told_c a0 _ h,fun _=>(.a kD<|.nil),fun _=>(ren_tupL (.a kD<|.i<|.nil))⟩
theorem r05_Div_c (a0:AD) (a1:AD) (a2:Int) (a3:Bool):∀ r,r05_Div a0 a1 a2 a3=some r→ACalls Tryz.prog 167 [(.agg (kD.enc a0)),(.agg (kD.enc a1)),(.int .i64 a2),(.bool a3)] (lw []) (.tup [(.agg (kD.enc (⟨((r.1).M),(r.1).E⟩:AD))),(.int .i64 r.2)]) (ld []):=by
 unfold r05_Div
 refine go 0 func167 ntmps167 rfl ?_
 intro E hE
 refine .seq<|.region<|.w (bx 0 rfl)<|.w (bx 1 rfl)<|.w (al 2 ze26 rfl)<|.p (sg rfl)<|.nil<|.seq<|.seq<|.region<|.p (la ag26 rfl)<|.bind fun x12 h1=>.p (c0 (r05_Right_p h1) rfl)<|.p (sg rfl)<|?_
 refine .nil<|.seq<|.seq<|.region<|.p (la ag26 rfl)<|.bind fun x13 h2=>.p (c0 (r05_Right_p h2) rfl)<|.p (sg rfl)<|.nil<|.seq<|.seq<|.seq<|?_
 refine T.cut (X:=Bool) (fun x=>r05_Div_j1 a1 a0 a2 a3 x) (fun x=>(mkS [(2,some (.int .i64 a2)),(3,some (.bool a3)),(4,some (.ptr 0 0)),(5,some (.ptr 1 0)),(8,some (.ptr 2 0)),(32,some (.bool x))] [(0,(.live 26 [(.bool a0.M.Neg),(slK (kInt .u32) a0.M.Mag),(.int .i64 a0.E)])),(1,(.live 26 [(.bool a1.M.Neg),(slK (kInt .u32) a1.M.Mag),(.int .i64 a1.E)])),(2,(.live 26 [(.bool false),(slK (kInt .u32) []),(.int .i64 0)]))])) ?_ ?_
 ·rintro y15
  dsimp only [r05_Div_j1]
  refine .seq<|?_
  refine T.cond_p rfl iff_b (fun h6 h7=>?_) (fun h6 h7=>?_)
  ·refine .seq<|.region<|.p (bd ze26 pl26 rfl)<|.n (sa ag26 rfl)<|.p (sg rfl)<|.nil<|.seq<|.ret<|.seq_ret<|fin_2 (.inr rfl) (.nil _) results167 (.a ag26 rfl) (.t rfl) (AVle.refl _)
  ·refine .skip<|.seq<|.seq<|.seq<|.region<|.p (fa 0 fl26_0 rfl)<|.p (fa 1 fl24_1 rfl)<|.p (ls sc22 rfl)<|.p (ln underlying22 rfl)<|.p (ar rfl)<|.nil<|.seq<|?_
   refine T.cond_p rfl iff_eq (fun h8 h9=>?_) (fun h8 h9=>?_)
   ·refine .seq<|.region<|.p (bd ze26 pl26 rfl)<|.n (sa ag26 rfl)<|.p (sg rfl)<|.nil<|.seq<|.ret<|.seq_ret<|fin_2 (.inr rfl) (.nil _) results167 (.a ag26 rfl) (.t rfl) (AVle.refl _)
   ·refine .skip<|.seq<|.seq<|.seq<|.region<|.p (fa 0 fl26_0 rfl)<|.p (fa 1 fl24_1 rfl)<|.p (ls sc22 rfl)<|.p (ln underlying22 rfl)<|.p (ar rfl)<|.nil<|.seq<|?_
    refine T.cond_p rfl iff_eq (fun h10 h11=>?_) (fun h10 h11=>?_)
    ·refine .seq<|.region<|.p (bd ze26 pl26 rfl)<|.n (sa ag26 rfl)<|.p (sg rfl)<|.nil<|.seq<|.ret<|.seq_ret<|fin_2 (.inr rfl) (.nil _) results167 (.a ag26 rfl) (.t rfl) (AVle.refl _)
    ·refine .skip<|.seq<|.seq<|.draw mixed<|.p (mv rfl)<|.p (ar rfl)<|.p (fa 0 fl26_0 rfl)<|.p (fa 1 fl24_1 rfl)<|.p (ls sc22 rfl)<|.bind fun x16 h12=>.p (c0 (r01_Bits_p h12) rfl)<|.p (ar rfl)<|.p (fa 0 fl26_0 rfl)<|.p (fa 1 fl24_1 rfl)<|?_
     refine .p (ls sc22 rfl)<|.bind fun x17 h13=>.p (c0 (r01_Bits_p h13) rfl)<|.p (ar rfl)<|?_
     refine TD.st 58 (.int .i64 (mx 0 (IntKind.i64.wrap ((IntKind.i64.wrap ((IntKind.i64.wrap (a2+2))+x16))-x17)))) [] (snd_max _ _ _ _ _ _ rfl rfl rfl rfl rfl) rfl rfl rfl ?_
     refine .p (sg rfl)<|.nil (by kernel_rfl)<|.seq<|.seq<|.region<|.p (fa 0 fl26_0 rfl)<|.p (fa 1 fl24_1 rfl)<|.p (ls sc22 rfl)<|.p (mv rfl)<|.bind fun x18 h14=>.p (c0 (r05_upMag_p h14) rfl)<|.p (sg rfl)<|.nil<|.seq<|?_
     refine .seq<|.region<|.p (mv rfl)<|.p (fa 0 fl26_0 rfl)<|.p (fa 1 fl24_1 rfl)<|.p (ls sc22 rfl)<|.bind fun x19 h15=>.p (c0 (r03_DivMod_p h15) rfl)<|.p (mv rfl)<|.p (xt rfl)<|.p (xt rfl)<|.p (xt rfl)<|.p (sg rfl)<|.p (sg rfl)<|?_
     refine .p (sg rfl)<|.nil<|.seq<|.seq<|.region<|.p (fa 0 fl26_0 rfl)<|.p (fa 0 fl24_0 rfl)<|.p (ls sc4 rfl)<|.p (fa 0 fl26_0 rfl)<|.p (fa 0 fl24_0 rfl)<|.p (ls sc4 rfl)<|?_
     refine TR.st 79 (.bool (a0.M.Neg != a1.M.Neg)) [] (snd_bool_neq _ _ _ _ _ _ rfl underlying4 rfl rfl rfl rfl) rfl rfl rfl ?_
     refine .p (sg rfl)<|.nil<|.seq<|.seq<|.region<|.p (mv rfl)<|.p (mv rfl)<|.p (fa 2 fl26_1 rfl)<|.p (ls sc3 rfl)<|.p (fa 2 fl26_1 rfl)<|.p (ls sc3 rfl)<|.p (ar rfl)<|.p (mv rfl)<|.p (ar rfl)<|?_
     refine .p (mv rfl)<|.p (ln underlying22 rfl)<|.p (ar rfl)<|.p (mv rfl)<|.p (mv rfl)<|.p (mv rfl)<|?_
     refine TR.st 95 (.bool (a3 != (a0.M.Neg != a1.M.Neg))) [] (snd_bool_neq _ _ _ _ _ _ rfl underlying4 rfl rfl rfl rfl) rfl rfl rfl ?_
     refine .bind fun x20 h16=>.p (c0 (r05_cut_p h16) rfl)<|.bind fun x21 h17=>.p (c0 (r05_told_p h17) rfl)<|.p (xt rfl)<|.p (xt rfl)<|.n (sa ag26 rfl)<|.p (sg rfl)<|.nil<|.seq<|.ret<|fin_2 (.inr rfl) (.nil _) results167 (.a ag26 rfl) (.t rfl) (AVle.refl _)
 ·intro h18
  refine .region<|.p (mv rfl)<|.p (un rfl)<|.p (mv rfl)<|?_
  refine TR.gd 24 _ rfl iff_nb (fun h19=>?_) (fun h19=>?_)
  ·refine .k rfl<|.k rfl<|.p (pt rfl)<|.p (mv rfl)<|.k rfl<|.k rfl<|.k rfl<|.p (pt rfl)<|.nil<|.weak (h18 true) (jn (m:=0) [(0,0),(1,1),(2,2)] hE (.i rfl<|.b rfl<|.p rfl rfl<|.p rfl rfl<|.p rfl rfl<|.b rfl<|.nil) (.v rfl (.b<|.l<|.i<|.nil)<|.v rfl (.b<|.l<|.i<|.nil)<|.v rfl (.b<|.l<|.i<|.nil)<|.nil) rfl)
  ·refine .p (mv rfl)<|.p (un rfl)<|.p (pf rfl)<|.p (mv rfl)<|?_
   refine TR.gd 28 _ rfl iff_nb (fun h20=>?_) (fun h20=>?_)
   ·refine .k rfl<|.k rfl<|.k rfl<|.p (pt rfl)<|.nil<|.weak (h18 true) (jn (m:=0) [(0,0),(1,1),(2,2)] hE (.i rfl<|.b rfl<|.p rfl rfl<|.p rfl rfl<|.p rfl rfl<|.b rfl<|.nil) (.v rfl (.b<|.l<|.i<|.nil)<|.v rfl (.b<|.l<|.i<|.nil)<|.v rfl (.b<|.l<|.i<|.nil)<|.nil) rfl)
   ·refine .p (mv rfl)<|.bind fun x22 h21=>.p (c0 (r05_prec_p h21) rfl)<|.p (un rfl)<|.p (pf rfl)<|.nil<|.weak (h18 (!x22)) (jn (m:=0) [(0,0),(1,1),(2,2)] hE (.i rfl<|.b rfl<|.p rfl rfl<|.p rfl rfl<|.p rfl rfl<|.b rfl<|.nil) (.v rfl (.b<|.l<|.i<|.nil)<|.v rfl (.b<|.l<|.i<|.nil)<|.v rfl (.b<|.l<|.i<|.nil)<|.nil) rfl)
theorem r05_Div_p {a0:AD} {a1:AD} {a2:Int} {a3:Bool} {r:AD × Int} (h:r05_Div a0 a1 a2 a3=some r):Pur Tryz.prog 167 [(.agg (kD.enc a0)),(.agg (kD.enc a1)),(.int .i64 a2),(.bool a3)] (.tup [(.agg (kD.enc (⟨((r.1).M),(r.1).E⟩:AD))),(.int .i64 r.2)]):=⟨⟨_,func167,nm167,rfl⟩,r05_Div_c a0 a1 a2 a3 _ h,fun _=>(.a kD<|.a kD<|.i<|.b<|.nil),fun _=>(ren_tupL (.a kD<|.i<|.nil))⟩
theorem r06_least_c (a0:List AD):∀ r,r06_least a0=some r→ACalls Tryz.prog 169 [(slK kD a0)] (lw []) (.agg (kD.enc (⟨((r).M),(r).E⟩:AD))) (ld []):=by
 unfold r06_least
 refine go 0 func169 ntmps169 rfl ?_
 intro E hE
 refine .seq<|.region<|.w (al 0 ze26 rfl)<|.nil<|.seq<|.seq<|.region<|.p (mv rfl)<|.guard fun h1=>?_
 refine TR.st 6 (.iptr [(.bool (((a0.getD 0 zAD).M).Neg)),(slK (kInt .u32) (((a0.getD 0 zAD).M).Mag)),(.int .i64 ((a0.getD 0 zAD).E))]) [] (snd_indexK kD _ _ _ _ _ _ 0 rfl underlying96 si26 rfl rfl rfl rfl h1) rfl rfl rfl ?_
 refine .p (lai ag26 rfl)<|.w (al 1 ze26 rfl)<|.n (sa ag26 rfl)<|.nil<|.seq<|.seq<|.seq<|.region<|.p (sg rfl)<|.nil<|.seq<|?_
 refine T.cut (X:=Bool × (List Int) × Int) (fun x=>r06_least_j1 x.1 x.2.1 x.2.2) (fun x=>(mkS [(2,some (.ptr 0 0)),(3,some (.ptr 1 0))] [(0,(.live 26 [(.bool false),(slK (kInt .u32) []),(.int .i64 0)])),(1,(.live 26 [(.bool x.1),(slK (kInt .u32) x.2.1),(.int .i64 x.2.2)]))])) ?_ ?_
 ·rintro ⟨y100,y101,y102⟩
  dsimp only [r06_least_j1]
  refine .seq<|.seq<|.region<|.p (la ag26 rfl)<|.n (sa ag26 rfl)<|.nil<|.seq<|.ret<|fin_1 (.inr rfl) (.nil _) results169 (.a ag26 rfl) (AVle.refl _)
 ·intro h56
  refine .block<|.loopW (X:=Int × Bool × (List Int) × Int) (fun n x=>r06_least_l2 a0 n x.1 x.2.1 x.2.2.1 x.2.2.2) (fun x=>(mkS [(0,some (slK kD a0)),(2,some (.ptr 0 0)),(3,some (.ptr 1 0)),(4,some (.int .i64 x.1))] [(0,(.live 26 [(.bool false),(slK (kInt .u32) []),(.int .i64 0)])),(1,(.live 26 [(.bool x.2.1),(slK (kInt .u32) x.2.2.1),(.int .i64 x.2.2.2)]))])) (1,((a0.getD 0 zAD).M).Neg,((a0.getD 0 zAD).M).Mag,(a0.getD 0 zAD).E) (jn (m:=0) [(0,0),(1,1)] hE (.l rfl<|.p rfl rfl<|.p rfl rfl<|.i rfl<|.nil) (.v rfl (.b<|.l<|.i<|.nil)<|.v rfl (.b<|.l<|.i<|.nil)<|.nil) rfl) (fun _=>rfl) rfl<|?_
  rintro n2 ⟨y123,y124,y125,y126⟩
  try dsimp only
  rw [r06_least_l2]
  refine .seq<|.seq<|.region<|.p (mv rfl)<|.p (mv rfl)<|.p (ln underlying96 rfl)<|.p (ar rfl)<|.nil<|.seq<|?_
  refine T.cond_p rfl iff_dec (fun h93 h94=>?_) (fun h93 h94=>?_)
  ·refine .skip<|.seq<|.seq<|.block<|.seq<|.draw mixed<|.p (mv rfl)<|.p (mv rfl)<|.guard fun h103=>?_
   refine TD.st 16 (.iptr [(.bool (((a0.getD y123.toNat zAD).M).Neg)),(slK (kInt .u32) (((a0.getD y123.toNat zAD).M).Mag)),(.int .i64 ((a0.getD y123.toNat zAD).E))]) [] (snd_indexK kD _ _ _ _ _ _ y123 rfl underlying96 si26 rfl rfl rfl rfl h103) rfl rfl rfl ?_
   refine .p (lai ag26 rfl)<|.p (la ag26 rfl)<|.bind fun x131 h104=>.p (c0 (r05_Cmp_p h104) rfl)<|.p (ar rfl)<|.nil (by kernel_rfl)<|.seq<|?_
   refine T.cut (X:=Bool × (List Int) × Int) (fun x=>r06_least_j3 (fun z0 z1 z2 z3=>r06_least_l2 a0 n2 z0 z1 z2 z3) y123 x.1 x.2.1 x.2.2) (fun x=>(mkS [(0,some (slK kD a0)),(2,some (.ptr 0 0)),(3,some (.ptr 1 0)),(4,some (.int .i64 y123))] [(0,(.live 26 [(.bool false),(slK (kInt .u32) []),(.int .i64 0)])),(1,(.live 26 [(.bool x.1),(slK (kInt .u32) x.2.1),(.int .i64 x.2.2)]))])) ?_ ?_
   ·rintro ⟨y132,y133,y134⟩
    dsimp only [r06_least_j3]
    refine .block<|.seq<|.region<|.p (mv rfl)<|.p (ar rfl)<|.p (sg rfl)<|.nil<|.again ((IntKind.i64.wrap (y123+1)),y132,y133,y134) (jn (m:=0) [(0,0),(1,1)] hE (.l rfl<|.p rfl rfl<|.p rfl rfl<|.i rfl<|.nil) (.v rfl (.b<|.l<|.i<|.nil)<|.v rfl (.b<|.l<|.i<|.nil)<|.nil) rfl) rfl
   ·intro h108
    refine T.cond_p rfl iff_dec (fun h109 h110=>?_) (fun h109 h110=>?_)
    ·refine .region<|.p (mv rfl)<|.p (mv rfl)<|.guard fun h111=>?_
     refine TR.st 23 (.iptr [(.bool (((a0.getD y123.toNat zAD).M).Neg)),(slK (kInt .u32) (((a0.getD y123.toNat zAD).M).Mag)),(.int .i64 ((a0.getD y123.toNat zAD).E))]) [] (snd_indexK kD _ _ _ _ _ _ y123 rfl underlying96 si26 rfl rfl rfl rfl h111) rfl rfl rfl ?_
     refine .p (lai ag26 rfl)<|.n (sa ag26 rfl)<|.nil<|.weak (h108 (((a0.getD y123.toNat zAD).M).Neg,((a0.getD y123.toNat zAD).M).Mag,(a0.getD y123.toNat zAD).E)) (jn (m:=0) [(0,0),(1,1)] hE (.l rfl<|.p rfl rfl<|.p rfl rfl<|.i rfl<|.nil) (.v rfl (.b<|.l<|.i<|.nil)<|.v rfl (.b<|.l<|.i<|.nil)<|.nil) rfl)
    ·refine .skip<|.weak (h108 (y124,y125,y126)) (jn (m:=0) [(0,0),(1,1)] hE (.l rfl<|.p rfl rfl<|.p rfl rfl<|.i rfl<|.nil) (.v rfl (.b<|.l<|.i<|.nil)<|.v rfl (.b<|.l<|.i<|.nil)<|.nil) rfl)
  ·refine .exit<|.seq_exit<|.loop_exit<|.block_exit<|.weak (h56 (y124,y125,y126)) (jn (m:=0) [(0,0),(1,1)] hE (.p rfl rfl<|.p rfl rfl<|.nil) (.v rfl (.b<|.l<|.i<|.nil)<|.v rfl (.b<|.l<|.i<|.nil)<|.nil) rfl)
theorem r06_least_p {a0:List AD} {r:AD} (h:r06_least a0=some r):Pur Tryz.prog 169 [(slK kD a0)] (.agg (kD.enc (⟨((r).M),(r).E⟩:AD))):=⟨⟨_,func169,nm169,rfl⟩,r06_least_c a0 _ h,fun _=>(.l<|.nil),fun _=>(ren_agg (K:=kD) _)⟩
theorem r06_greatest_c (a0:List AD):∀ r,r06_greatest a0=some r→ACalls Tryz.prog 170 [(slK kD a0)] (lw []) (.agg (kD.enc (⟨((r).M),(r).E⟩:AD))) (ld []):=by
 unfold r06_greatest
 refine go 0 func170 ntmps170 rfl ?_
 intro E hE
 refine .seq<|.region<|.w (al 0 ze26 rfl)<|.nil<|.seq<|.seq<|.region<|.p (mv rfl)<|.guard fun h1=>?_
 refine TR.st 6 (.iptr [(.bool (((a0.getD 0 zAD).M).Neg)),(slK (kInt .u32) (((a0.getD 0 zAD).M).Mag)),(.int .i64 ((a0.getD 0 zAD).E))]) [] (snd_indexK kD _ _ _ _ _ _ 0 rfl underlying96 si26 rfl rfl rfl rfl h1) rfl rfl rfl ?_
 refine .p (lai ag26 rfl)<|.w (al 1 ze26 rfl)<|.n (sa ag26 rfl)<|.nil<|.seq<|.seq<|.seq<|.region<|.p (sg rfl)<|.nil<|.seq<|?_
 refine T.cut (X:=Bool × (List Int) × Int) (fun x=>r06_greatest_j1 x.1 x.2.1 x.2.2) (fun x=>(mkS [(2,some (.ptr 0 0)),(3,some (.ptr 1 0))] [(0,(.live 26 [(.bool false),(slK (kInt .u32) []),(.int .i64 0)])),(1,(.live 26 [(.bool x.1),(slK (kInt .u32) x.2.1),(.int .i64 x.2.2)]))])) ?_ ?_
 ·rintro ⟨y100,y101,y102⟩
  dsimp only [r06_greatest_j1]
  refine .seq<|.seq<|.region<|.p (la ag26 rfl)<|.n (sa ag26 rfl)<|.nil<|.seq<|.ret<|fin_1 (.inr rfl) (.nil _) results170 (.a ag26 rfl) (AVle.refl _)
 ·intro h56
  refine .block<|.loopW (X:=Int × Bool × (List Int) × Int) (fun n x=>r06_greatest_l2 a0 n x.1 x.2.1 x.2.2.1 x.2.2.2) (fun x=>(mkS [(0,some (slK kD a0)),(2,some (.ptr 0 0)),(3,some (.ptr 1 0)),(4,some (.int .i64 x.1))] [(0,(.live 26 [(.bool false),(slK (kInt .u32) []),(.int .i64 0)])),(1,(.live 26 [(.bool x.2.1),(slK (kInt .u32) x.2.2.1),(.int .i64 x.2.2.2)]))])) (1,((a0.getD 0 zAD).M).Neg,((a0.getD 0 zAD).M).Mag,(a0.getD 0 zAD).E) (jn (m:=0) [(0,0),(1,1)] hE (.l rfl<|.p rfl rfl<|.p rfl rfl<|.i rfl<|.nil) (.v rfl (.b<|.l<|.i<|.nil)<|.v rfl (.b<|.l<|.i<|.nil)<|.nil) rfl) (fun _=>rfl) rfl<|?_
  rintro n2 ⟨y123,y124,y125,y126⟩
  try dsimp only
  rw [r06_greatest_l2]
  refine .seq<|.seq<|.region<|.p (mv rfl)<|.p (mv rfl)<|.p (ln underlying96 rfl)<|.p (ar rfl)<|.nil<|.seq<|?_
  refine T.cond_p rfl iff_dec (fun h93 h94=>?_) (fun h93 h94=>?_)
  ·refine .skip<|.seq<|.seq<|.block<|.seq<|.draw mixed<|.p (mv rfl)<|.p (mv rfl)<|.guard fun h103=>?_
   refine TD.st 16 (.iptr [(.bool (((a0.getD y123.toNat zAD).M).Neg)),(slK (kInt .u32) (((a0.getD y123.toNat zAD).M).Mag)),(.int .i64 ((a0.getD y123.toNat zAD).E))]) [] (snd_indexK kD _ _ _ _ _ _ y123 rfl underlying96 si26 rfl rfl rfl rfl h103) rfl rfl rfl ?_
   refine .p (lai ag26 rfl)<|.p (la ag26 rfl)<|.bind fun x131 h104=>.p (c0 (r05_Cmp_p h104) rfl)<|.p (ar rfl)<|.nil (by kernel_rfl)<|.seq<|?_
   refine T.cut (X:=Bool × (List Int) × Int) (fun x=>r06_greatest_j3 (fun z0 z1 z2 z3=>r06_greatest_l2 a0 n2 z0 z1 z2 z3) y123 x.1 x.2.1 x.2.2) (fun x=>(mkS [(0,some (slK kD a0)),(2,some (.ptr 0 0)),(3,some (.ptr 1 0)),(4,some (.int .i64 y123))] [(0,(.live 26 [(.bool false),(slK (kInt .u32) []),(.int .i64 0)])),(1,(.live 26 [(.bool x.1),(slK (kInt .u32) x.2.1),(.int .i64 x.2.2)]))])) ?_ ?_
   ·rintro ⟨y132,y133,y134⟩
    dsimp only [r06_greatest_j3]
    refine .block<|.seq<|.region<|.p (mv rfl)<|.p (ar rfl)<|.p (sg rfl)<|.nil<|.again ((IntKind.i64.wrap (y123+1)),y132,y133,y134) (jn (m:=0) [(0,0),(1,1)] hE (.l rfl<|.p rfl rfl<|.p rfl rfl<|.i rfl<|.nil) (.v rfl (.b<|.l<|.i<|.nil)<|.v rfl (.b<|.l<|.i<|.nil)<|.nil) rfl) rfl
   ·intro h108
    refine T.cond_p rfl iff_dec (fun h109 h110=>?_) (fun h109 h110=>?_)
    ·refine .region<|.p (mv rfl)<|.p (mv rfl)<|.guard fun h111=>?_
     refine TR.st 23 (.iptr [(.bool (((a0.getD y123.toNat zAD).M).Neg)),(slK (kInt .u32) (((a0.getD y123.toNat zAD).M).Mag)),(.int .i64 ((a0.getD y123.toNat zAD).E))]) [] (snd_indexK kD _ _ _ _ _ _ y123 rfl underlying96 si26 rfl rfl rfl rfl h111) rfl rfl rfl ?_
     refine .p (lai ag26 rfl)<|.n (sa ag26 rfl)<|.nil<|.weak (h108 (((a0.getD y123.toNat zAD).M).Neg,((a0.getD y123.toNat zAD).M).Mag,(a0.getD y123.toNat zAD).E)) (jn (m:=0) [(0,0),(1,1)] hE (.l rfl<|.p rfl rfl<|.p rfl rfl<|.i rfl<|.nil) (.v rfl (.b<|.l<|.i<|.nil)<|.v rfl (.b<|.l<|.i<|.nil)<|.nil) rfl)
    ·refine .skip<|.weak (h108 (y124,y125,y126)) (jn (m:=0) [(0,0),(1,1)] hE (.l rfl<|.p rfl rfl<|.p rfl rfl<|.i rfl<|.nil) (.v rfl (.b<|.l<|.i<|.nil)<|.v rfl (.b<|.l<|.i<|.nil)<|.nil) rfl)
  ·refine .exit<|.seq_exit<|.loop_exit<|.block_exit<|.weak (h56 (y124,y125,y126)) (jn (m:=0) [(0,0),(1,1)] hE (.p rfl rfl<|.p rfl rfl<|.nil) (.v rfl (.b<|.l<|.i<|.nil)<|.v rfl (.b<|.l<|.i<|.nil)<|.nil) rfl)
theorem r06_greatest_p {a0:List AD} {r:AD} (h:r06_greatest a0=some r):Pur Tryz.prog 170 [(slK kD a0)] (.agg (kD.enc (⟨((r).M),(r).E⟩:AD))):=⟨⟨_,func170,nm170,rfl⟩,r06_greatest_c a0 _ h,fun _=>(.l<|.nil),fun _=>(ren_agg (K:=kD) _)⟩
theorem r06_Cout_c (a0:AD) (a1:AD) (a2:Int) (a3:Int):∀ r,r06_Cout a0 a1 a2 a3=some r→ACalls Tryz.prog 168 [(.ptr 0 0),(.agg (kD.enc a0)),(.agg (kD.enc a1))] (lw [(.live 65 [(.int .i64 a2),(.int .i64 a3)])]) (.agg (kI.enc (⟨⟨(((r).Lo).M),((r).Lo).E⟩,⟨(((r).Hi).M),((r).Hi).E⟩⟩:AI))) (ld [(.live 65 [(.int .i64 a2),(.int .i64 a3)])]):=by
 unfold r06_Cout
 refine go 1 func168 ntmps168 rfl ?_
 intro E hE
 refine .seq<|.region<|.w (bx 1 rfl)<|.w (bx 2 rfl)<|.w (al 3 ze34 rfl)<|.nil<|.seq<|.seq<|.seq<|.region<|.p (mv rfl)<|.p (nc rfl)<|.p (fa 1 fl65_1 rfl)<|.p (ls sc3 rfl)<|?_
 refine .p (ar rfl)<|.nil<|.seq<|?_
 refine T.cond_p rfl iff_ne (fun h1 h2=>?_) (fun h1 h2=>?_)
 ·refine .seq<|.region<|.p (bd ze34 pl34 rfl)<|.n (sa ag34 rfl)<|.nil<|.seq<|.ret<|.seq_ret<|fin_1 (.inr rfl) (.k rfl (.nil _)) results168 (.a ag34 rfl) (AVle.refl _)
 ·refine .skip<|.seq<|.seq<|.region<|.p (la ag26 rfl)<|.p (la ag26 rfl)<|.p (bd ze34 pl34 rfl)<|.n (sa ag34 rfl)<|.nil<|.seq<|.ret<|fin_1 (.inr rfl) (.k rfl (.nil _)) results168 (.a ag34 rfl) (AVle.refl _)
theorem r06_Cout_k {a0:AD} {a1:AD} {a2:Int} {a3:Int} {r:AI} (h:r06_Cout a0 a1 a2 a3=some r):Cal Tryz.prog 168 [(.ptr 0 0),(.agg (kD.enc a0)),(.agg (kD.enc a1))] [(.live 65 [(.int .i64 a2),(.int .i64 a3)])] (.agg (kI.enc (⟨⟨(((r).Lo).M),((r).Lo).E⟩,⟨(((r).Hi).M),((r).Hi).E⟩⟩:AI))) [(.live 65 [(.int .i64 a2),(.int .i64 a3)])]:=⟨⟨_,func168,nm168,rfl⟩,r06_Cout_c a0 a1 a2 a3 _ h⟩
theorem r06_CDiv_c (a0:AI) (a1:AI) (a2:Int) (a3:Int):∀ r,r06_CDiv a0 a1 a2 a3=some r→ACalls Tryz.prog 114 [(.ptr 0 0),(.agg (kI.enc a0)),(.agg (kI.enc a1))] (lw [(.live 65 [(.int .i64 a2),(.int .i64 a3)])]) (.agg (kI.enc (⟨⟨(((r.1).Lo).M),((r.1).Lo).E⟩,⟨(((r.1).Hi).M),((r.1).Hi).E⟩⟩:AI))) (ld [(.live 65 [(.int .i64 a2),(.int .i64 r.2)])]):=by
 unfold r06_CDiv
 refine go 1 func114 ntmps114 rfl ?_
 intro E hE
 refine .seq<|.region<|.w (bx 1 rfl)<|.w (bx 2 rfl)<|.w (al 3 ze34 rfl)<|.nil<|.seq<|.seq<|.seq<|.region<|.p (mv rfl)<|.p (la ag34 rfl)<|.p (la ag34 rfl)<|?_
 refine TR.st 19 (slK kI [a0,a1]) [] (snd_buildSlice _ _ _ 6 _ _ [(0,(.agg (kI.enc a0))),(1,(.agg (kI.enc a1)))] (List.map kI.enc [a0,a1]) rfl underlying104 ze34 si34 rfl rfl rfl (by decide) (by decide) (by decide) rfl rfl (Kd.even _) rfl) rfl rfl rfl ?_
 refine .bind fun x122 h1=>.w (cl (r06_Carg_k h1) [0] [] [true] rfl (.p rfl<|.l<|.nil) (.p rfl (.i<|.i<|.nil) .nil) fnil (.cons (.v (.i<|.i<|.nil)) .nil) (.bool _) (.turned .nil) rfl)<|.p (un rfl)<|.nil<|.seq<|?_
 refine T.cond_p rfl iff_nb (fun h2 h3=>?_) (fun h2 h3=>?_)
 ·refine .seq<|.region<|.p (bd ze34 pl34 rfl)<|.n (sa ag34 rfl)<|.nil<|.seq<|.ret<|.seq_ret<|fin_1 (.inr rfl) (.k rfl (.nil _)) results114 (.a ag34 rfl) (AVle.refl _)
 ·refine .skip<|.seq<|.seq<|.seq<|.region<|.p (la ag34 rfl)<|.p (bd ze26 pl26 rfl)<|.bind fun x123 h4=>.p (c0 (r06_Has_p h4) rfl)<|.nil<|.seq<|?_
  refine T.cond_p rfl iff_b (fun h5 h6=>?_) (fun h5 h6=>?_)
  ·refine .seq<|.region<|.p (mv rfl)<|.bind fun x124 h7=>.w (cl (r06_Cerr_k h7) [0] [] [true] rfl (.p rfl<|.i<|.nil) (.p rfl (.i<|.i<|.nil) .nil) fnil (.cons (.v (.i<|.i<|.nil)) .nil) (.bool _) (.turned .nil) rfl)<|.nil<|.seq<|.seq<|.region<|.p (bd ze34 pl34 rfl)<|.n (sa ag34 rfl)<|.nil<|.seq<|.ret<|?_
   refine .seq_ret<|fin_1 (.inr rfl) (.k rfl (.nil _)) results114 (.a ag34 rfl) (AVle.refl _)
  ·refine .skip<|.seq<|.seq<|.region<|.p (fa 0 fl34_0 rfl)<|.p (la ag26 rfl)<|.p (fa 0 fl34_0 rfl)<|.p (la ag26 rfl)<|.p (fa 3 fl34_1 rfl)<|.p (la ag26 rfl)<|.p (fa 3 fl34_1 rfl)<|.p (la ag26 rfl)<|?_
   refine TR.st 37 (slK kD [a0.Lo,a0.Lo,a0.Hi,a0.Hi]) [] (snd_buildSlice _ _ _ 3 _ _ [(0,(.agg (kD.enc a0.Lo))),(1,(.agg (kD.enc a0.Lo))),(2,(.agg (kD.enc a0.Hi))),(3,(.agg (kD.enc a0.Hi)))] (List.map kD.enc [a0.Lo,a0.Lo,a0.Hi,a0.Hi]) rfl underlying96 ze26 si26 rfl rfl rfl (by decide) (by decide) (by decide) rfl rfl (Kd.even _) rfl) rfl rfl rfl ?_
   refine .p (sg rfl)<|.nil<|.seq<|.seq<|.region<|.p (fa 0 fl34_0 rfl)<|.p (la ag26 rfl)<|.p (fa 3 fl34_1 rfl)<|.p (la ag26 rfl)<|.p (fa 0 fl34_0 rfl)<|.p (la ag26 rfl)<|.p (fa 3 fl34_1 rfl)<|.p (la ag26 rfl)<|?_
   refine TR.st 46 (slK kD [a1.Lo,a1.Hi,a1.Lo,a1.Hi]) [] (snd_buildSlice _ _ _ 3 _ _ [(0,(.agg (kD.enc a1.Lo))),(1,(.agg (kD.enc a1.Hi))),(2,(.agg (kD.enc a1.Lo))),(3,(.agg (kD.enc a1.Hi)))] (List.map kD.enc [a1.Lo,a1.Hi,a1.Lo,a1.Hi]) rfl underlying96 ze26 si26 rfl rfl rfl (by decide) (by decide) (by decide) rfl rfl (Kd.even _) rfl) rfl rfl rfl ?_
   refine .p (sg rfl)<|.nil<|.seq<|.seq<|.region<|.p (sg rfl)<|.nil<|.seq<|.seq<|.region<|.p (sg rfl)<|.nil<|.seq<|.seq<|?_
   refine .seq<|.region<|.p (sg rfl)<|.nil<|.seq<|?_
   refine T.cut (X:=Int × (List AD) × (List AD)) (fun x=>r06_CDiv_j1 a2 x.1 x.2.1 x.2.2) (fun x=>(mkS [(0,some (.ptr 0 0)),(6,some (.ptr 3 0)),(9,some (grA kD 4 x.2.1)),(10,some (grA kD 5 x.2.2))] [(0,(.live 65 [(.int .i64 a2),(.int .i64 x.1)])),(3,(.live 34 [(.bool false),(slK (kInt .u32) []),(.int .i64 0),(.bool false),(slK (kInt .u32) []),(.int .i64 0)])),(4,(grV kD 26 x.2.1)),(5,(grV kD 26 x.2.2))])) ?_ ?_
   ·rintro ⟨y181,y182,y183⟩
    dsimp only [r06_CDiv_j1]
    refine .seq<|.seq<|?_
    refine T.weak ?_ (fun a w h=>Conc.gr_still kD h 9 4 26 y182 rfl rfl)
    refine T.weak ?_ (fun a w h=>Conc.gr_still kD h 10 5 26 y183 rfl rfl)
    refine .region<|.p (mv rfl)<|.p (mv rfl)<|.bind fun x184 h108=>.p (c0 (r06_least_p h108) rfl)<|.p (mv rfl)<|.bind fun x185 h109=>.p (c0 (r06_greatest_p h109) rfl)<|.bind fun x186 h110=>.p (cl (r06_Cout_k h110) [0] [] [false] rfl (.p rfl<|.a kD<|.a kD<|.nil) (.p rfl (.i<|.i<|.nil) .nil) fnil (.cons (.v (.i<|.i<|.nil)) .nil) (ren_agg (K:=kI) _) (.kept rfl .nil) rfl)<|.n (sa ag34 rfl)<|.nil<|.seq<|.ret<|fin_1 (.inr rfl) (.k rfl (.nil _)) results114 (.a ag34 rfl) (AVle.refl _)
   ·intro h111
    refine .block<|?_
    refine T.weak ?_ (fun a w h=>Conc.gr_nil kD h 9 4 26 rfl)
    refine T.weak ?_ (fun a w h=>Conc.gr_nil kD h 10 5 26 rfl)
    refine .loopW (X:=Int × Int × (List AD) × (List AD)) (fun n x=>r06_CDiv_l2 a0 a1 a2 n x.1 x.2.1 x.2.2.1 x.2.2.2) (fun x=>(mkS [(0,some (.ptr 0 0)),(6,some (.ptr 3 0)),(7,some (slK kD [a0.Lo,a0.Lo,a0.Hi,a0.Hi])),(8,some (slK kD [a1.Lo,a1.Hi,a1.Lo,a1.Hi])),(9,some (grA kD 4 x.2.2.1)),(10,some (grA kD 5 x.2.2.2)),(11,some (.int .i64 x.1))] [(0,(.live 65 [(.int .i64 a2),(.int .i64 x.2.1)])),(3,(.live 34 [(.bool false),(slK (kInt .u32) []),(.int .i64 0),(.bool false),(slK (kInt .u32) []),(.int .i64 0)])),(4,(grV kD 26 x.2.2.1)),(5,(grV kD 26 x.2.2.2))])) (0,x122.2,[],[]) (jn (m:=1) [(0,0),(3,3),(4,4),(5,5)] hE (.p rfl rfl<|.p rfl rfl<|.l rfl<|.l rfl<|.g rfl (ren_gr (K:=kD) (by rfl) [])<|.g rfl (ren_gr (K:=kD) (by rfl) [])<|.i rfl<|.nil) (.v rfl (.i<|.i<|.nil)<|.v rfl (.b<|.l<|.i<|.b<|.l<|.i<|.nil)<|.cons (.refl _) (renV_gr (K:=kD) 26 [])<|.cons (.refl _) (renV_gr (K:=kD) 26 [])<|.nil) rfl) (fun _=>rfl) rfl<|?_
    rintro n2 ⟨y223,y224,y225,y226⟩
    try dsimp only
    rw [r06_CDiv_l2]
    refine .seq<|.seq<|.region<|.p (mv rfl)<|.p (ar rfl)<|.nil<|.seq<|?_
    refine T.cond_p rfl iff_dec (fun h178 h179=>?_) (fun h178 h179=>?_)
    ·refine .skip<|.seq<|.seq<|.block<|.seq<|.draw mixed<|.p (mv rfl)<|.p (mv rfl)<|.guard fun h196=>?_
     refine TD.st 54 (.iptr [(.bool ((([a0.Lo,a0.Lo,a0.Hi,a0.Hi].getD y223.toNat zAD).M).Neg)),(slK (kInt .u32) ((([a0.Lo,a0.Lo,a0.Hi,a0.Hi].getD y223.toNat zAD).M).Mag)),(.int .i64 (([a0.Lo,a0.Lo,a0.Hi,a0.Hi].getD y223.toNat zAD).E))]) [] (snd_indexK kD _ _ _ _ _ _ y223 rfl underlying96 si26 rfl rfl rfl rfl h196) rfl rfl rfl ?_
     refine .p (lai ag26 rfl)<|.p (mv rfl)<|.p (mv rfl)<|.guard fun h197=>?_
     refine TD.st 58 (.iptr [(.bool ((([a1.Lo,a1.Hi,a1.Lo,a1.Hi].getD y223.toNat zAD).M).Neg)),(slK (kInt .u32) ((([a1.Lo,a1.Hi,a1.Lo,a1.Hi].getD y223.toNat zAD).M).Mag)),(.int .i64 (([a1.Lo,a1.Hi,a1.Lo,a1.Hi].getD y223.toNat zAD).E))]) [] (snd_indexK kD _ _ _ _ _ _ y223 rfl underlying96 si26 rfl rfl rfl rfl h197) rfl rfl rfl ?_
     refine .p (lai ag26 rfl)<|.p (mv rfl)<|.p (nc rfl)<|.p (fa 0 fl65_0 rfl)<|.p (ls sc3 rfl)<|.bind fun x235 h198=>.p (c0 (r05_Div_p h198) rfl)<|.p (mv rfl)<|.p (xt rfl)<|.p (xt rfl)<|.w (al 6 ze26 rfl)<|.n (sa ag26 rfl)<|.p (sg rfl)<|.nil (by kernel_rfl)<|?_
     refine .seq<|.seq<|.draw mixed<|.p (mv rfl)<|.p (mv rfl)<|.guard fun h199=>?_
     refine TD.st 70 (.iptr [(.bool ((([a0.Lo,a0.Lo,a0.Hi,a0.Hi].getD y223.toNat zAD).M).Neg)),(slK (kInt .u32) ((([a0.Lo,a0.Lo,a0.Hi,a0.Hi].getD y223.toNat zAD).M).Mag)),(.int .i64 (([a0.Lo,a0.Lo,a0.Hi,a0.Hi].getD y223.toNat zAD).E))]) [] (snd_indexK kD _ _ _ _ _ _ y223 rfl underlying96 si26 rfl rfl rfl rfl h199) rfl rfl rfl ?_
     refine .p (lai ag26 rfl)<|.p (mv rfl)<|.p (mv rfl)<|.guard fun h200=>?_
     refine TD.st 74 (.iptr [(.bool ((([a1.Lo,a1.Hi,a1.Lo,a1.Hi].getD y223.toNat zAD).M).Neg)),(slK (kInt .u32) ((([a1.Lo,a1.Hi,a1.Lo,a1.Hi].getD y223.toNat zAD).M).Mag)),(.int .i64 (([a1.Lo,a1.Hi,a1.Lo,a1.Hi].getD y223.toNat zAD).E))]) [] (snd_indexK kD _ _ _ _ _ _ y223 rfl underlying96 si26 rfl rfl rfl rfl h200) rfl rfl rfl ?_
     refine .p (lai ag26 rfl)<|.p (mv rfl)<|.p (nc rfl)<|.p (fa 0 fl65_0 rfl)<|.p (ls sc3 rfl)<|.bind fun x236 h201=>.p (c0 (r05_Div_p h201) rfl)<|.p (mv rfl)<|.p (xt rfl)<|.p (xt rfl)<|.w (al 7 ze26 rfl)<|.n (sa ag26 rfl)<|.p (sg rfl)<|.nil (by kernel_rfl)<|?_
     refine .seq<|.seq<|.seq<|?_
     refine T.cut (X:=Bool × Int) (fun x=>r06_CDiv_j3 x235 y225 x236 y226 (fun z0 z1 z2 z3=>r06_CDiv_l2 a0 a1 a2 n2 z0 z1 z2 z3) y223 x.1 x.2) (fun x=>(mkS [(0,some (.ptr 0 0)),(6,some (.ptr 3 0)),(7,some (slK kD [a0.Lo,a0.Lo,a0.Hi,a0.Hi])),(8,some (slK kD [a1.Lo,a1.Hi,a1.Lo,a1.Hi])),(9,some (grA kD 4 y225)),(10,some (grA kD 5 y226)),(11,some (.int .i64 y223)),(12,some (.ptr 6 0)),(14,some (.ptr 7 0)),(92,some (.bool x.1))] [(0,(.live 65 [(.int .i64 a2),(.int .i64 x.2)])),(3,(.live 34 [(.bool false),(slK (kInt .u32) []),(.int .i64 0),(.bool false),(slK (kInt .u32) []),(.int .i64 0)])),(4,(grV kD 26 y225)),(5,(grV kD 26 y226)),(6,(.live 26 [(.bool (((x235.1).M).Neg)),(slK (kInt .u32) (((x235.1).M).Mag)),(.int .i64 ((x235.1).E))])),(7,(.live 26 [(.bool (((x236.1).M).Neg)),(slK (kInt .u32) (((x236.1).M).Mag)),(.int .i64 ((x236.1).E))]))])) ?_ ?_
     ·rintro ⟨y239,y240⟩
      dsimp only [r06_CDiv_j3]
      refine .seq<|?_
      refine T.cond_p rfl iff_b (fun h205 h206=>?_) (fun h205 h206=>?_)
      ·refine .seq<|.region<|.p (bd ze34 pl34 rfl)<|.n (sa ag34 rfl)<|.nil<|.seq<|.ret<|.seq_ret<|.block_ret<|.seq_ret<|.loop_ret<|.block_ret<|.seq_ret<|fin_1 (.inr rfl) (.k rfl (.nil _)) results114 (.a ag34 rfl) (AVle.refl _)
      ·refine .skip<|.seq<|.seq<|.region<|.p (mv rfl)<|.p (la ag26 rfl)<|?_
       refine TR.st 96 (slK kD [(⟨((x235.1).M),(x235.1).E⟩:AD)]) [] (snd_buildSlice _ _ _ 3 _ _ [(0,(.agg (kD.enc (⟨((x235.1).M),(x235.1).E⟩:AD))))] (List.map kD.enc [(⟨((x235.1).M),(x235.1).E⟩:AD)]) rfl underlying96 ze26 si26 rfl rfl rfl (by decide) (by decide) (by decide) rfl rfl (Kd.even _) rfl) rfl rfl rfl ?_
       refine .guard fun h207=>?_
       refine TR.st 97 (.row 8 kD.sz 0 (((y225++[(⟨((x235.1).M),(x235.1).E⟩:AD)])).length)) [(8,(rwK kD 26 (y225++[(⟨((x235.1).M),(x235.1).E⟩:AD)]))),(4,.dead)] (snd_appendK_gr kD _ _ _ _ _ 4 8 y225 [(⟨((x235.1).M),(x235.1).E⟩:AD)] rfl underlying96 ze26 sb26 rfl rfl rfl rfl rfl rfl rfl h207) rfl rfl rfl ?_
       refine .p (sg rfl)<|.nil<|.seq<|.region<|.p (mv rfl)<|.p (la ag26 rfl)<|?_
       refine TR.st 100 (slK kD [(⟨((x236.1).M),(x236.1).E⟩:AD)]) [] (snd_buildSlice _ _ _ 3 _ _ [(0,(.agg (kD.enc (⟨((x236.1).M),(x236.1).E⟩:AD))))] (List.map kD.enc [(⟨((x236.1).M),(x236.1).E⟩:AD)]) rfl underlying96 ze26 si26 rfl rfl rfl (by decide) (by decide) (by decide) rfl rfl (Kd.even _) rfl) rfl rfl rfl ?_
       refine .guard fun h208=>?_
       refine TR.st 101 (.row 9 kD.sz 0 (((y226++[(⟨((x236.1).M),(x236.1).E⟩:AD)])).length)) [(9,(rwK kD 26 (y226++[(⟨((x236.1).M),(x236.1).E⟩:AD)]))),(5,.dead)] (snd_appendK_gr kD _ _ _ _ _ 5 9 y226 [(⟨((x236.1).M),(x236.1).E⟩:AD)] rfl underlying96 ze26 sb26 rfl rfl rfl rfl rfl rfl rfl h208) rfl rfl rfl ?_
       refine .p (sg rfl)<|.nil<|.block<|.seq<|.region<|.p (mv rfl)<|.p (ar rfl)<|.p (sg rfl)<|.nil<|?_
       refine TQ.weak ?_ (fun a w h=>Conc.gr_row kD h 9 8 26 (y225++[(⟨((x235.1).M),(x235.1).E⟩:AD)]) rfl rfl (by first | omega | (simp only [List.length_append,List.length_cons,List.length_set]; omega) | simp))
       refine TQ.weak ?_ (fun a w h=>Conc.gr_row kD h 10 9 26 (y226++[(⟨((x236.1).M),(x236.1).E⟩:AD)]) rfl rfl (by first | omega | (simp only [List.length_append,List.length_cons,List.length_set]; omega) | simp))
       exact TQ.again ((IntKind.i64.wrap (y223+1)),y240,(y225++[(⟨((x235.1).M),(x235.1).E⟩:AD)]),(y226++[(⟨((x236.1).M),(x236.1).E⟩:AD)])) (jn (m:=1) [(0,0),(3,3),(8,4),(9,5)] hE (.p rfl rfl<|.p rfl rfl<|.l rfl<|.l rfl<|.g rfl (ren_gr (K:=kD) (by rfl) (y225++[(⟨((x235.1).M),(x235.1).E⟩:AD)]))<|.g rfl (ren_gr (K:=kD) (by rfl) (y226++[(⟨((x236.1).M),(x236.1).E⟩:AD)]))<|.i rfl<|.nil) (.v rfl (.i<|.i<|.nil)<|.v rfl (.b<|.l<|.i<|.b<|.l<|.i<|.nil)<|.cons (.refl _) (renV_gr (K:=kD) 26 (y225++[(⟨((x235.1).M),(x235.1).E⟩:AD)]))<|.cons (.refl _) (renV_gr (K:=kD) 26 (y226++[(⟨((x236.1).M),(x236.1).E⟩:AD)]))<|.nil) rfl) rfl
     ·intro h209
      refine .region<|.p (mv rfl)<|.p (mv rfl)<|.bind fun x241 h210=>.w (cl (r06_Cerr_k h210) [0] [] [true] rfl (.p rfl<|.i<|.nil) (.p rfl (.i<|.i<|.nil) .nil) fnil (.cons (.v (.i<|.i<|.nil)) .nil) (.bool _) (.turned .nil) rfl)<|.p (un rfl)<|.p (mv rfl)<|?_
      refine TR.gd 87 _ rfl iff_nb (fun h211=>?_) (fun h211=>?_)
      ·refine .k rfl<|.k rfl<|.k rfl<|.k rfl<|.p (pt rfl)<|.nil<|.weak (h209 (true,x241.2)) (jn (m:=1) [(0,0),(3,3),(4,4),(5,5),(6,6),(7,7)] hE (.p rfl rfl<|.p rfl rfl<|.l rfl<|.l rfl<|.g rfl (ren_gr (K:=kD) (by rfl) y225)<|.g rfl (ren_gr (K:=kD) (by rfl) y226)<|.i rfl<|.p rfl rfl<|.p rfl rfl<|.b rfl<|.nil) (.v rfl (.i<|.i<|.nil)<|.v rfl (.b<|.l<|.i<|.b<|.l<|.i<|.nil)<|.cons (.refl _) (renV_gr (K:=kD) 26 y225)<|.cons (.refl _) (renV_gr (K:=kD) 26 y226)<|.v rfl (.b<|.l<|.i<|.nil)<|.v rfl (.b<|.l<|.i<|.nil)<|.nil) rfl)
      ·refine .p (mv rfl)<|.p (mv rfl)<|.bind fun x242 h212=>.w (cl (r06_Cerr_k h212) [0] [] [true] rfl (.p rfl<|.i<|.nil) (.p rfl (.i<|.i<|.nil) .nil) fnil (.cons (.v (.i<|.i<|.nil)) .nil) (.bool _) (.turned .nil) rfl)<|.p (un rfl)<|.p (pf rfl)<|.nil<|.weak (h209 ((!x242.1),x242.2)) (jn (m:=1) [(0,0),(3,3),(4,4),(5,5),(6,6),(7,7)] hE (.p rfl rfl<|.p rfl rfl<|.l rfl<|.l rfl<|.g rfl (ren_gr (K:=kD) (by rfl) y225)<|.g rfl (ren_gr (K:=kD) (by rfl) y226)<|.i rfl<|.p rfl rfl<|.p rfl rfl<|.b rfl<|.nil) (.v rfl (.i<|.i<|.nil)<|.v rfl (.b<|.l<|.i<|.b<|.l<|.i<|.nil)<|.cons (.refl _) (renV_gr (K:=kD) 26 y225)<|.cons (.refl _) (renV_gr (K:=kD) 26 y226)<|.v rfl (.b<|.l<|.i<|.nil)<|.v rfl (.b<|.l<|.i<|.nil)<|.nil) rfl)
    ·refine .exit<|.seq_exit<|.loop_exit<|.block_exit<|.weak (h111 (y224,y225,y226)) (jn (m:=1) [(0,0),(3,3),(4,4),(5,5)] hE (.p rfl rfl<|.p rfl rfl<|.g rfl (ren_gr (K:=kD) (by rfl) y225)<|.g rfl (ren_gr (K:=kD) (by rfl) y226)<|.nil) (.v rfl (.i<|.i<|.nil)<|.v rfl (.b<|.l<|.i<|.b<|.l<|.i<|.nil)<|.cons (.refl _) (renV_gr (K:=kD) 26 y225)<|.cons (.refl _) (renV_gr (K:=kD) 26 y226)<|.nil) rfl)
theorem r06_CDiv_k {a0:AI} {a1:AI} {a2:Int} {a3:Int} {r:AI × Int} (h:r06_CDiv a0 a1 a2 a3=some r):Cal Tryz.prog 114 [(.ptr 0 0),(.agg (kI.enc a0)),(.agg (kI.enc a1))] [(.live 65 [(.int .i64 a2),(.int .i64 a3)])] (.agg (kI.enc (⟨⟨(((r.1).Lo).M),((r.1).Lo).E⟩,⟨(((r.1).Hi).M),((r.1).Hi).E⟩⟩:AI))) [(.live 65 [(.int .i64 a2),(.int .i64 r.2)])]:=⟨⟨_,func114,nm114,rfl⟩,r06_CDiv_c a0 a1 a2 a3 _ h⟩
theorem r05_Make_c (a0:ApiInt) (a1:Int):∀ r,r05_Make a0 a1=some r→ACalls Tryz.prog 102 [(.agg (kN.enc a0)),(.int .i64 a1)] (lw []) (.tup [(.agg (kD.enc (⟨((r.1).M),(r.1).E⟩:AD))),(.bool r.2)]) (ld []):=by
 unfold r05_Make
 refine go 0 func102 ntmps102 rfl ?_
 intro E hE
 refine .seq<|.region<|.w (bx 0 rfl)<|.w (al 1 ze26 rfl)<|.p (sg rfl)<|.nil<|.seq<|.seq<|.seq<|?_
 refine T.cut (X:=Bool) (fun x=>r05_Make_j1 a0 a1 x) (fun x=>(mkS [(1,some (.int .i64 a1)),(2,some (.ptr 0 0)),(4,some (.ptr 1 0)),(13,some (.bool x))] [(0,(.live 24 [(.bool a0.Neg),(slK (kInt .u32) a0.Mag)])),(1,(.live 26 [(.bool false),(slK (kInt .u32) []),(.int .i64 0)]))])) ?_ ?_
 ·rintro y4
  dsimp only [r05_Make_j1]
  refine .seq<|?_
  refine T.cond_p rfl iff_b (fun h2 h3=>?_) (fun h2 h3=>?_)
  ·refine .seq<|.region<|.p (bd ze26 pl26 rfl)<|.n (sa ag26 rfl)<|.p (sg rfl)<|.nil<|.seq<|.ret<|.seq_ret<|fin_2 (.inr rfl) (.nil _) results102 (.a ag26 rfl) (.t rfl) (AVle.refl _)
  ·refine .skip<|.seq<|.seq<|.region<|.p (la ag24 rfl)<|.p (mv rfl)<|.bind fun x5 h4=>.p (c0 (r05_norm_p h4) rfl)<|.w (al 2 ze26 rfl)<|.n (sa ag26 rfl)<|.nil<|.seq<|.seq<|.region<|?_
   refine .p (la ag26 rfl)<|.bind fun x6 h5=>.p (c0 (r05_inRange_p h5) rfl)<|.p (sg rfl)<|.nil<|.seq<|.seq<|.seq<|.region<|.p (mv rfl)<|.p (un rfl)<|.nil<|.seq<|?_
   refine T.cond_p rfl iff_nb (fun h6 h7=>?_) (fun h6 h7=>?_)
   ·refine .seq<|.region<|.p (bd ze26 pl26 rfl)<|.n (sa ag26 rfl)<|.p (sg rfl)<|.nil<|.seq<|.ret<|.seq_ret<|fin_2 (.inr rfl) (.nil _) results102 (.a ag26 rfl) (.t rfl) (AVle.refl _)
   ·refine .skip<|.seq<|.seq<|.region<|.p (la ag26 rfl)<|.n (sa ag26 rfl)<|.p (sg rfl)<|.nil<|.seq<|.ret<|fin_2 (.inr rfl) (.nil _) results102 (.a ag26 rfl) (.t rfl) (AVle.refl _)
 ·intro h8
  refine .region<|.p (mv rfl)<|.p (ar rfl)<|.p (mv rfl)<|?_
  refine TR.gd 10 _ rfl iff_dec (fun h9=>?_) (fun h9=>?_)
  ·refine .k rfl<|.k rfl<|.p (pt rfl)<|.nil<|.weak (h8 true) (jn (m:=0) [(0,0),(1,1)] hE (.i rfl<|.p rfl rfl<|.p rfl rfl<|.b rfl<|.nil) (.v rfl (.b<|.l<|.nil)<|.v rfl (.b<|.l<|.i<|.nil)<|.nil) rfl)
  ·refine .p (mv rfl)<|.p (ar rfl)<|.p (pf rfl)<|.nil<|.weak (h8 (decide (a1>100000))) (jn (m:=0) [(0,0),(1,1)] hE (.i rfl<|.p rfl rfl<|.p rfl rfl<|.b rfl<|.nil) (.v rfl (.b<|.l<|.nil)<|.v rfl (.b<|.l<|.i<|.nil)<|.nil) rfl)
theorem r05_Make_p {a0:ApiInt} {a1:Int} {r:AD × Bool} (h:r05_Make a0 a1=some r):Pur Tryz.prog 102 [(.agg (kN.enc a0)),(.int .i64 a1)] (.tup [(.agg (kD.enc (⟨((r.1).M),(r.1).E⟩:AD))),(.bool r.2)]):=⟨⟨_,func102,nm102,rfl⟩,r05_Make_c a0 a1 _ h,fun _=>(.a kN<|.i<|.nil),fun _=>(ren_tupL (.a kD<|.b<|.nil))⟩
theorem r05_Half_c (a0:Int):∀ r,r05_Half a0=some r→ACalls Tryz.prog 160 [(.int .i64 a0)] (lw []) (.agg (kD.enc (⟨((r).M),(r).E⟩:AD))) (ld []):=by
 unfold r05_Half
 refine go 0 func160 ntmps160 rfl ?_
 intro E hE
 refine .seq<|.region<|.w (al 0 ze26 rfl)<|.nil<|.seq<|.seq<|.region<|.bind fun x3 h1=>.p (c0 (r04_From_p h1) rfl)<|.p (mv rfl)<|.bind fun x4 h2=>.p (c0 (r05_Make_p h2) rfl)<|.p (mv rfl)<|.p (xt rfl)<|?_
 refine .p (xt rfl)<|.w (al 1 ze26 rfl)<|.n (sa ag26 rfl)<|.p (sg rfl)<|.nil<|.seq<|.seq<|.region<|.p (la ag26 rfl)<|.n (sa ag26 rfl)<|.nil<|.seq<|.ret<|fin_1 (.inr rfl) (.nil _) results160 (.a ag26 rfl) (AVle.refl _)
theorem r05_Half_p {a0:Int} {r:AD} (h:r05_Half a0=some r):Pur Tryz.prog 160 [(.int .i64 a0)] (.agg (kD.enc (⟨((r).M),(r).E⟩:AD))):=⟨⟨_,func160,nm160,rfl⟩,r05_Half_c a0 _ h,fun _=>(.i<|.nil),fun _=>(ren_agg (K:=kD) _)⟩
theorem r04_Neg_c (a0:ApiInt):∀ r,r04_Neg a0=some r→ACalls Tryz.prog 192 [(.agg (kN.enc a0))] (lw []) (.agg (kN.enc (r))) (ld []):=by
 unfold r04_Neg
 refine go 0 func192 ntmps192 rfl ?_
 intro E hE
 refine .seq<|.region<|.w (bx 0 rfl)<|.w (al 1 ze24 rfl)<|.nil<|.seq<|.seq<|.region<|.p (fa 0 fl24_0 rfl)<|.p (ls sc4 rfl)<|.p (un rfl)<|.p (fa 1 fl24_1 rfl)<|.p (ls sc22 rfl)<|.bind fun x2 h1=>?_
 refine .p (c0 (r04_Make_p h1) rfl)<|.n (sa ag24 rfl)<|.nil<|.seq<|.ret<|fin_1 (.inr rfl) (.nil _) results192 (.a ag24 rfl) (AVle.refl _)
theorem r04_Neg_p {a0:ApiInt} {r:ApiInt} (h:r04_Neg a0=some r):Pur Tryz.prog 192 [(.agg (kN.enc a0))] (.agg (kN.enc (r))):=⟨⟨_,func192,nm192,rfl⟩,r04_Neg_c a0 _ h,fun _=>(.a kN<|.nil),fun _=>(ren_agg (K:=kN) _)⟩
theorem r05_Neg_c (a0:AD):∀ r,r05_Neg a0=some r→ACalls Tryz.prog 162 [(.agg (kD.enc a0))] (lw []) (.agg (kD.enc (⟨((r).M),(r).E⟩:AD))) (ld []):=by
 unfold r05_Neg
 refine go 0 func162 ntmps162 rfl ?_
 intro E hE
 refine .seq<|.region<|.w (bx 0 rfl)<|.w (al 1 ze26 rfl)<|.nil<|.seq<|.seq<|.region<|.p (la ag26 rfl)<|.bind fun x3 h1=>.p (c0 (r05_Right_p h1) rfl)<|.p (sg rfl)<|.nil<|.seq<|?_
 refine .seq<|.seq<|.region<|.p (mv rfl)<|.p (un rfl)<|.nil<|.seq<|?_
 refine T.cond_p rfl iff_nb (fun h2 h3=>?_) (fun h2 h3=>?_)
 ·refine .seq<|.region<|.p (bd ze26 pl26 rfl)<|.n (sa ag26 rfl)<|.nil<|.seq<|.ret<|.seq_ret<|fin_1 (.inr rfl) (.nil _) results162 (.a ag26 rfl) (AVle.refl _)
 ·refine .skip<|.seq<|.seq<|.draw mixed<|.p (fa 0 fl26_0 rfl)<|.p (la ag24 rfl)<|.bind fun x4 h4=>.p (c0 (r04_Neg_p h4) rfl)<|.p (fa 2 fl26_1 rfl)<|.p (ls sc3 rfl)<|.p (bd ze26 pl26 rfl)<|.n (sa ag26 rfl)<|.nil (by kernel_rfl)<|.seq<|?_
  refine .ret<|fin_1 (.inr rfl) (.nil _) results162 (.a ag26 rfl) (AVle.refl _)
theorem r05_Neg_p {a0:AD} {r:AD} (h:r05_Neg a0=some r):Pur Tryz.prog 162 [(.agg (kD.enc a0))] (.agg (kD.enc (⟨((r).M),(r).E⟩:AD))):=⟨⟨_,func162,nm162,rfl⟩,r05_Neg_c a0 _ h,fun _=>(.a kD<|.nil),fun _=>(ren_agg (K:=kD) _)⟩
theorem r06_In_c (a0:AI) (a1:AI):∀ r,r06_In a0 a1=some r→ACalls Tryz.prog 161 [(.agg (kI.enc a0)),(.agg (kI.enc a1))] (lw []) (.bool r) (ld []):=by
 unfold r06_In
 refine go 0 func161 ntmps161 rfl ?_
 intro E hE
 refine .seq<|.region<|.w (bx 0 rfl)<|.w (bx 1 rfl)<|.p (sg rfl)<|.nil<|.seq<|.seq<|.region<|.p (la ag34 rfl)<|.bind fun x7 h1=>.p (c0 (r06_Right_p h1) rfl)<|.p (sg rfl)<|.nil<|?_
 refine .seq<|.seq<|?_
 refine T.cut (X:=Bool) (fun x=>r06_In_j1 x) (fun x=>(mkS [(4,some (.bool x))] [])) ?_ ?_
 ·rintro y10
  dsimp only [r06_In_j1]
  refine .seq<|.ret<|fin_1 (.inr rfl) (.nil _) results161 (.t rfl) (AVle.refl _)
 ·intro h6
  refine .region<|.p (mv rfl)<|.p (mv rfl)<|?_
  refine TR.gd 9 _ rfl iff_b (fun h7=>?_) (fun h7=>?_)
  ·refine .p (la ag34 rfl)<|.p (fa 0 fl34_0 rfl)<|.p (la ag26 rfl)<|.bind fun x11 h8=>.p (c0 (r06_Has_p h8) rfl)<|.p (pt rfl)<|.p (mv rfl)<|?_
   refine TR.gd 15 _ rfl iff_b (fun h9=>?_) (fun h9=>?_)
   ·refine .p (la ag34 rfl)<|.p (fa 3 fl34_1 rfl)<|.p (la ag26 rfl)<|.bind fun x12 h10=>.p (c0 (r06_Has_p h10) rfl)<|.p (pt rfl)<|.p (sg rfl)<|.nil<|.weak (h6 x12) (jn (m:=0) [] hE (.b rfl<|.nil) .nil rfl)
   ·refine .k rfl<|.k rfl<|.k rfl<|.k rfl<|.p (pf rfl)<|.p (sg rfl)<|.nil<|.weak (h6 false) (jn (m:=0) [] hE (.b rfl<|.nil) .nil rfl)
  ·refine .k rfl<|.k rfl<|.k rfl<|.k rfl<|.p (pf rfl)<|.p (mv rfl)<|.k rfl<|.k rfl<|.k rfl<|.k rfl<|.p (pf rfl)<|.p (sg rfl)<|.nil<|.weak (h6 false) (jn (m:=0) [] hE (.b rfl<|.nil) .nil rfl)
theorem r06_In_p {a0:AI} {a1:AI} {r:Bool} (h:r06_In a0 a1=some r):Pur Tryz.prog 161 [(.agg (kI.enc a0)),(.agg (kI.enc a1))] (.bool r):=⟨⟨_,func161,nm161,rfl⟩,r06_In_c a0 a1 _ h,fun _=>(.a kI<|.a kI<|.nil),fun _=>(.bool _)⟩
theorem r07_fits_c (a0:AI) (a1:Int) (a2:Int) (a3:Int):∀ r,r07_fits a0 a1 a2 a3=some r→ACalls Tryz.prog 112 [(.ptr 0 0),(.agg (kI.enc a0)),(.int .i64 a1)] (lw [(.live 65 [(.int .i64 a2),(.int .i64 a3)])]) (.bool r.1) (ld [(.live 65 [(.int .i64 a2),(.int .i64 r.2)])]):=by
 unfold r07_fits
 refine go 1 func112 ntmps112 rfl ?_
 intro E hE
 refine .seq<|.region<|.w (bx 1 rfl)<|.p (sg rfl)<|.nil<|.seq<|.seq<|.seq<|.region<|.p (mv rfl)<|.p (nc rfl)<|.p (fa 1 fl65_1 rfl)<|.p (ls sc3 rfl)<|.p (ar rfl)<|?_
 refine .nil<|.seq<|?_
 refine T.cond_p rfl iff_ne (fun h1 h2=>?_) (fun h1 h2=>?_)
 ·refine .seq<|.region<|.p (sg rfl)<|.nil<|.seq<|.ret<|.seq_ret<|fin_1 (.inr rfl) (.k rfl (.nil _)) results112 (.t rfl) (AVle.refl _)
 ·refine .skip<|.seq<|.seq<|.region<|.p (la ag34 rfl)<|.bind fun x5 h3=>.p (c0 (r06_Right_p h3) rfl)<|.p (sg rfl)<|.nil<|.seq<|.seq<|.seq<|.region<|.p (mv rfl)<|?_
  refine .p (un rfl)<|.nil<|.seq<|?_
  refine T.cond_p rfl iff_nb (fun h4 h5=>?_) (fun h4 h5=>?_)
  ·refine .seq<|.region<|.p (mv rfl)<|.p (nc rfl)<|.p (fa 1 fl65_1 rfl)<|.n (ss sc3 rfl)<|.nil<|.seq<|.seq<|.region<|.p (sg rfl)<|.nil<|.seq<|.ret<|?_
   refine .seq_ret<|fin_1 (.inr rfl) (.k rfl (.nil _)) results112 (.t rfl) (AVle.refl _)
  ·refine .skip<|.seq<|.seq<|.region<|.p (mv rfl)<|.bind fun x6 h6=>.p (c0 (r05_Half_p h6) rfl)<|.w (al 2 ze26 rfl)<|.n (sa ag26 rfl)<|.nil<|.seq<|.seq<|.seq<|.draw mixed<|?_
   refine .p (la ag34 rfl)<|.p (la ag26 rfl)<|.bind fun x7 h7=>.p (c0 (r05_Neg_p h7) rfl)<|.p (la ag26 rfl)<|.p (bd ze34 pl34 rfl)<|.bind fun x8 h8=>.p (c0 (r06_In_p h8) rfl)<|.p (un rfl)<|.nil (by kernel_rfl)<|.seq<|?_
   refine T.cond_p rfl iff_nb (fun h9 h10=>?_) (fun h9 h10=>?_)
   ·refine .seq<|.region<|.p (mv rfl)<|.p (nc rfl)<|.p (fa 1 fl65_1 rfl)<|.n (ss sc3 rfl)<|.nil<|.seq<|.seq<|.region<|.p (sg rfl)<|.nil<|.seq<|.ret<|?_
    refine .seq_ret<|fin_1 (.inr rfl) (.k rfl (.nil _)) results112 (.t rfl) (AVle.refl _)
   ·refine .skip<|.seq<|.seq<|.region<|.p (sg rfl)<|.nil<|.seq<|.ret<|fin_1 (.inr rfl) (.k rfl (.nil _)) results112 (.t rfl) (AVle.refl _)
theorem r07_fits_k {a0:AI} {a1:Int} {a2:Int} {a3:Int} {r:Bool × Int} (h:r07_fits a0 a1 a2 a3=some r):Cal Tryz.prog 112 [(.ptr 0 0),(.agg (kI.enc a0)),(.int .i64 a1)] [(.live 65 [(.int .i64 a2),(.int .i64 a3)])] (.bool r.1) [(.live 65 [(.int .i64 a2),(.int .i64 r.2)])]:=⟨⟨_,func112,nm112,rfl⟩,r07_fits_c a0 a1 a2 a3 _ h⟩
theorem r04_Mul_c (a0:ApiInt) (a1:ApiInt):∀ r,r04_Mul a0 a1=some r→ACalls Tryz.prog 198 [(.agg (kN.enc a0)),(.agg (kN.enc a1))] (lw []) (.agg (kN.enc (r))) (ld []):=by
 unfold r04_Mul
 refine go 0 func198 ntmps198 rfl ?_
 intro E hE
 refine .seq<|.region<|.w (bx 0 rfl)<|.w (bx 1 rfl)<|.w (al 2 ze24 rfl)<|.nil<|.seq<|.seq<|.draw mixed<|.p (fa 0 fl24_0 rfl)<|.p (ls sc4 rfl)<|.p (fa 0 fl24_0 rfl)<|.p (ls sc4 rfl)<|?_
 refine TD.st 9 (.bool (a0.Neg != a1.Neg)) [] (snd_bool_neq _ _ _ _ _ _ rfl underlying4 rfl rfl rfl rfl) rfl rfl rfl ?_
 refine .p (fa 1 fl24_1 rfl)<|.p (ls sc22 rfl)<|.p (fa 1 fl24_1 rfl)<|.p (ls sc22 rfl)<|.bind fun x3 h1=>.p (c0 (r01_Mul_p h1) rfl)<|.bind fun x4 h2=>.p (c0 (r04_Make_p h2) rfl)<|.n (sa ag24 rfl)<|.nil (by kernel_rfl)<|.seq<|.ret<|fin_1 (.inr rfl) (.nil _) results198 (.a ag24 rfl) (AVle.refl _)
theorem r04_Mul_p {a0:ApiInt} {a1:ApiInt} {r:ApiInt} (h:r04_Mul a0 a1=some r):Pur Tryz.prog 198 [(.agg (kN.enc a0)),(.agg (kN.enc a1))] (.agg (kN.enc (r))):=⟨⟨_,func198,nm198,rfl⟩,r04_Mul_c a0 a1 _ h,fun _=>(.a kN<|.a kN<|.nil),fun _=>(ren_agg (K:=kN) _)⟩
theorem r05_Mul_c (a0:AD) (a1:AD):∀ r,r05_Mul a0 a1=some r→ACalls Tryz.prog 171 [(.agg (kD.enc a0)),(.agg (kD.enc a1))] (lw []) (.tup [(.agg (kD.enc (⟨((r.1).M),(r.1).E⟩:AD))),(.int .i64 r.2)]) (ld []):=by
 unfold r05_Mul
 refine go 0 func171 ntmps171 rfl ?_
 intro E hE
 refine .seq<|.region<|.w (bx 0 rfl)<|.w (bx 1 rfl)<|.w (al 2 ze26 rfl)<|.p (sg rfl)<|.nil<|.seq<|.seq<|.region<|.p (la ag26 rfl)<|.bind fun x7 h1=>.p (c0 (r05_Right_p h1) rfl)<|.p (sg rfl)<|?_
 refine .nil<|.seq<|.seq<|.region<|.p (la ag26 rfl)<|.bind fun x8 h2=>.p (c0 (r05_Right_p h2) rfl)<|.p (sg rfl)<|.nil<|.seq<|.seq<|.seq<|?_
 refine T.cut (X:=Bool) (fun x=>r05_Mul_j1 a0 a1 x) (fun x=>(mkS [(2,some (.ptr 0 0)),(3,some (.ptr 1 0)),(4,some (.ptr 2 0)),(17,some (.bool x))] [(0,(.live 26 [(.bool a0.M.Neg),(slK (kInt .u32) a0.M.Mag),(.int .i64 a0.E)])),(1,(.live 26 [(.bool a1.M.Neg),(slK (kInt .u32) a1.M.Mag),(.int .i64 a1.E)])),(2,(.live 26 [(.bool false),(slK (kInt .u32) []),(.int .i64 0)]))])) ?_ ?_
 ·rintro y9
  dsimp only [r05_Mul_j1]
  refine .seq<|?_
  refine T.cond_p rfl iff_b (fun h4 h5=>?_) (fun h4 h5=>?_)
  ·refine .seq<|.region<|.p (bd ze26 pl26 rfl)<|.n (sa ag26 rfl)<|.p (sg rfl)<|.nil<|.seq<|.ret<|.seq_ret<|fin_2 (.inr rfl) (.nil _) results171 (.a ag26 rfl) (.t rfl) (AVle.refl _)
  ·refine .skip<|.seq<|.seq<|.draw mixed<|.p (fa 0 fl26_0 rfl)<|.p (la ag24 rfl)<|.p (fa 0 fl26_0 rfl)<|.p (la ag24 rfl)<|.bind fun x10 h6=>.p (c0 (r04_Mul_p h6) rfl)<|.p (fa 2 fl26_1 rfl)<|.p (ls sc3 rfl)<|.p (fa 2 fl26_1 rfl)<|.p (ls sc3 rfl)<|?_
   refine .p (ar rfl)<|.bind fun x11 h7=>.p (c0 (r05_norm_p h7) rfl)<|.bind fun x12 h8=>.p (c0 (r05_told_p h8) rfl)<|.p (xt rfl)<|.p (xt rfl)<|.n (sa ag26 rfl)<|.p (sg rfl)<|.nil (by kernel_rfl)<|.seq<|.ret<|fin_2 (.inr rfl) (.nil _) results171 (.a ag26 rfl) (.t rfl) (AVle.refl _)
 ·intro h9
  refine .region<|.p (mv rfl)<|.p (un rfl)<|.p (mv rfl)<|?_
  refine TR.gd 14 _ rfl iff_nb (fun h10=>?_) (fun h10=>?_)
  ·refine .k rfl<|.k rfl<|.p (pt rfl)<|.nil<|.weak (h9 true) (jn (m:=0) [(0,0),(1,1),(2,2)] hE (.p rfl rfl<|.p rfl rfl<|.p rfl rfl<|.b rfl<|.nil) (.v rfl (.b<|.l<|.i<|.nil)<|.v rfl (.b<|.l<|.i<|.nil)<|.v rfl (.b<|.l<|.i<|.nil)<|.nil) rfl)
  ·refine .p (mv rfl)<|.p (un rfl)<|.p (pf rfl)<|.nil<|.weak (h9 (!x8)) (jn (m:=0) [(0,0),(1,1),(2,2)] hE (.p rfl rfl<|.p rfl rfl<|.p rfl rfl<|.b rfl<|.nil) (.v rfl (.b<|.l<|.i<|.nil)<|.v rfl (.b<|.l<|.i<|.nil)<|.v rfl (.b<|.l<|.i<|.nil)<|.nil) rfl)
theorem r05_Mul_p {a0:AD} {a1:AD} {r:AD × Int} (h:r05_Mul a0 a1=some r):Pur Tryz.prog 171 [(.agg (kD.enc a0)),(.agg (kD.enc a1))] (.tup [(.agg (kD.enc (⟨((r.1).M),(r.1).E⟩:AD))),(.int .i64 r.2)]):=⟨⟨_,func171,nm171,rfl⟩,r05_Mul_c a0 a1 _ h,fun _=>(.a kD<|.a kD<|.nil),fun _=>(ren_tupL (.a kD<|.i<|.nil))⟩
theorem r05_Round_c (a0:AD) (a1:Int) (a2:Bool):∀ r,r05_Round a0 a1 a2=some r→ACalls Tryz.prog 199 [(.agg (kD.enc a0)),(.int .i64 a1),(.bool a2)] (lw []) (.tup [(.agg (kD.enc (⟨((r.1).M),(r.1).E⟩:AD))),(.int .i64 r.2)]) (ld []):=by
 unfold r05_Round
 refine go 0 func199 ntmps199 rfl ?_
 intro E hE
 refine .seq<|.region<|.w (bx 0 rfl)<|.w (al 1 ze26 rfl)<|.p (sg rfl)<|.nil<|.seq<|.seq<|.region<|.p (la ag26 rfl)<|.bind fun x7 h1=>.p (c0 (r05_Right_p h1) rfl)<|.p (sg rfl)<|.nil<|?_
 refine .seq<|.seq<|.seq<|?_
 refine T.cut (X:=Bool) (fun x=>r05_Round_j1 a0 a1 a2 x) (fun x=>(mkS [(1,some (.int .i64 a1)),(2,some (.bool a2)),(3,some (.ptr 0 0)),(6,some (.ptr 1 0)),(17,some (.bool x))] [(0,(.live 26 [(.bool a0.M.Neg),(slK (kInt .u32) a0.M.Mag),(.int .i64 a0.E)])),(1,(.live 26 [(.bool false),(slK (kInt .u32) []),(.int .i64 0)]))])) ?_ ?_
 ·rintro y9
  dsimp only [r05_Round_j1]
  refine .seq<|?_
  refine T.cond_p rfl iff_b (fun h4 h5=>?_) (fun h4 h5=>?_)
  ·refine .seq<|.region<|.p (bd ze26 pl26 rfl)<|.n (sa ag26 rfl)<|.p (sg rfl)<|.nil<|.seq<|.ret<|.seq_ret<|fin_2 (.inr rfl) (.nil _) results199 (.a ag26 rfl) (.t rfl) (AVle.refl _)
  ·refine .skip<|.seq<|.seq<|.region<|.p (fa 0 fl26_0 rfl)<|.p (fa 0 fl24_0 rfl)<|.p (ls sc4 rfl)<|.p (fa 0 fl26_0 rfl)<|.p (fa 1 fl24_1 rfl)<|.p (ls sc22 rfl)<|.p (fa 2 fl26_1 rfl)<|.p (ls sc3 rfl)<|.p (mv rfl)<|.p (mv rfl)<|?_
   refine .p (fa 0 fl26_0 rfl)<|.p (fa 0 fl24_0 rfl)<|.p (ls sc4 rfl)<|?_
   refine TR.st 32 (.bool (a2 != a0.M.Neg)) [] (snd_bool_neq _ _ _ _ _ _ rfl underlying4 rfl rfl rfl rfl) rfl rfl rfl ?_
   refine .bind fun x10 h6=>.p (c0 (r05_cut_p h6) rfl)<|.bind fun x11 h7=>.p (c0 (r05_told_p h7) rfl)<|.p (xt rfl)<|.p (xt rfl)<|.n (sa ag26 rfl)<|.p (sg rfl)<|.nil<|.seq<|.ret<|fin_2 (.inr rfl) (.nil _) results199 (.a ag26 rfl) (.t rfl) (AVle.refl _)
 ·intro h8
  refine .region<|.p (mv rfl)<|.p (un rfl)<|.p (mv rfl)<|?_
  refine TR.gd 13 _ rfl iff_nb (fun h9=>?_) (fun h9=>?_)
  ·refine .k rfl<|.k rfl<|.k rfl<|.p (pt rfl)<|.nil<|.weak (h8 true) (jn (m:=0) [(0,0),(1,1)] hE (.i rfl<|.b rfl<|.p rfl rfl<|.p rfl rfl<|.b rfl<|.nil) (.v rfl (.b<|.l<|.i<|.nil)<|.v rfl (.b<|.l<|.i<|.nil)<|.nil) rfl)
  ·refine .p (mv rfl)<|.bind fun x12 h10=>.p (c0 (r05_prec_p h10) rfl)<|.p (un rfl)<|.p (pf rfl)<|.nil<|.weak (h8 (!x12)) (jn (m:=0) [(0,0),(1,1)] hE (.i rfl<|.b rfl<|.p rfl rfl<|.p rfl rfl<|.b rfl<|.nil) (.v rfl (.b<|.l<|.i<|.nil)<|.v rfl (.b<|.l<|.i<|.nil)<|.nil) rfl)
theorem r05_Round_p {a0:AD} {a1:Int} {a2:Bool} {r:AD × Int} (h:r05_Round a0 a1 a2=some r):Pur Tryz.prog 199 [(.agg (kD.enc a0)),(.int .i64 a1),(.bool a2)] (.tup [(.agg (kD.enc (⟨((r.1).M),(r.1).E⟩:AD))),(.int .i64 r.2)]):=⟨⟨_,func199,nm199,rfl⟩,r05_Round_c a0 a1 a2 _ h,fun _=>(.a kD<|.i<|.b<|.nil),fun _=>(ren_tupL (.a kD<|.i<|.nil))⟩
theorem r06_Cround_c (a0:AD) (a1:Bool) (a2:Int) (a3:Int):∀ r,r06_Cround a0 a1 a2 a3=some r→ACalls Tryz.prog 172 [(.ptr 0 0),(.agg (kD.enc a0)),(.bool a1)] (lw [(.live 65 [(.int .i64 a2),(.int .i64 a3)])]) (.agg (kD.enc (⟨((r.1).M),(r.1).E⟩:AD))) (ld [(.live 65 [(.int .i64 a2),(.int .i64 r.2)])]):=by
 unfold r06_Cround
 refine go 1 func172 ntmps172 rfl ?_
 intro E hE
 refine .seq<|.region<|.w (bx 1 rfl)<|.w (al 2 ze26 rfl)<|.nil<|.seq<|.seq<|.seq<|.region<|.p (mv rfl)<|.p (nc rfl)<|.p (fa 1 fl65_1 rfl)<|.p (ls sc3 rfl)<|.p (ar rfl)<|?_
 refine .nil<|.seq<|?_
 refine T.cond_p rfl iff_ne (fun h1 h2=>?_) (fun h1 h2=>?_)
 ·refine .seq<|.region<|.p (bd ze26 pl26 rfl)<|.n (sa ag26 rfl)<|.nil<|.seq<|.ret<|.seq_ret<|fin_1 (.inr rfl) (.k rfl (.nil _)) results172 (.a ag26 rfl) (AVle.refl _)
 ·refine .skip<|.seq<|.seq<|.draw mixed<|.p (la ag26 rfl)<|.p (mv rfl)<|.p (nc rfl)<|.p (fa 0 fl65_0 rfl)<|.p (ls sc3 rfl)<|.p (mv rfl)<|.bind fun x3 h3=>.p (c0 (r05_Round_p h3) rfl)<|.p (mv rfl)<|.p (xt rfl)<|?_
  refine .p (xt rfl)<|.w (al 3 ze26 rfl)<|.n (sa ag26 rfl)<|.p (sg rfl)<|.nil (by kernel_rfl)<|.seq<|.seq<|.region<|.p (mv rfl)<|.p (mv rfl)<|.bind fun x4 h4=>.w (cl (r06_Cerr_k h4) [0] [] [true] rfl (.p rfl<|.i<|.nil) (.p rfl (.i<|.i<|.nil) .nil) fnil (.cons (.v (.i<|.i<|.nil)) .nil) (.bool _) (.turned .nil) rfl)<|.nil<|.seq<|?_
  refine .seq<|.region<|.p (la ag26 rfl)<|.n (sa ag26 rfl)<|.nil<|.seq<|.ret<|fin_1 (.inr rfl) (.k rfl (.nil _)) results172 (.a ag26 rfl) (AVle.refl _)
theorem r06_Cround_k {a0:AD} {a1:Bool} {a2:Int} {a3:Int} {r:AD × Int} (h:r06_Cround a0 a1 a2 a3=some r):Cal Tryz.prog 172 [(.ptr 0 0),(.agg (kD.enc a0)),(.bool a1)] [(.live 65 [(.int .i64 a2),(.int .i64 a3)])] (.agg (kD.enc (⟨((r.1).M),(r.1).E⟩:AD))) [(.live 65 [(.int .i64 a2),(.int .i64 r.2)])]:=⟨⟨_,func172,nm172,rfl⟩,r06_Cround_c a0 a1 a2 a3 _ h⟩
theorem r06_CMul_c (a0:AI) (a1:AI) (a2:Int) (a3:Int):∀ r,r06_CMul a0 a1 a2 a3=some r→ACalls Tryz.prog 115 [(.ptr 0 0),(.agg (kI.enc a0)),(.agg (kI.enc a1))] (lw [(.live 65 [(.int .i64 a2),(.int .i64 a3)])]) (.agg (kI.enc (⟨⟨(((r.1).Lo).M),((r.1).Lo).E⟩,⟨(((r.1).Hi).M),((r.1).Hi).E⟩⟩:AI))) (ld [(.live 65 [(.int .i64 a2),(.int .i64 r.2)])]):=by
 unfold r06_CMul
 refine go 1 func115 ntmps115 rfl ?_
 intro E hE
 refine .seq<|.region<|.w (bx 1 rfl)<|.w (bx 2 rfl)<|.w (al 3 ze34 rfl)<|.nil<|.seq<|.seq<|.seq<|.region<|.p (mv rfl)<|.p (la ag34 rfl)<|.p (la ag34 rfl)<|?_
 refine TR.st 18 (slK kI [a0,a1]) [] (snd_buildSlice _ _ _ 6 _ _ [(0,(.agg (kI.enc a0))),(1,(.agg (kI.enc a1)))] (List.map kI.enc [a0,a1]) rfl underlying104 ze34 si34 rfl rfl rfl (by decide) (by decide) (by decide) rfl rfl (Kd.even _) rfl) rfl rfl rfl ?_
 refine .bind fun x45 h1=>.w (cl (r06_Carg_k h1) [0] [] [true] rfl (.p rfl<|.l<|.nil) (.p rfl (.i<|.i<|.nil) .nil) fnil (.cons (.v (.i<|.i<|.nil)) .nil) (.bool _) (.turned .nil) rfl)<|.p (un rfl)<|.nil<|.seq<|?_
 refine T.cond_p rfl iff_nb (fun h2 h3=>?_) (fun h2 h3=>?_)
 ·refine .seq<|.region<|.p (bd ze34 pl34 rfl)<|.n (sa ag34 rfl)<|.nil<|.seq<|.ret<|.seq_ret<|fin_1 (.inr rfl) (.k rfl (.nil _)) results115 (.a ag34 rfl) (AVle.refl _)
 ·refine .skip<|.seq<|.seq<|.region<|.p (fa 0 fl34_0 rfl)<|.p (la ag26 rfl)<|.p (fa 0 fl34_0 rfl)<|.p (la ag26 rfl)<|.p (fa 3 fl34_1 rfl)<|.p (la ag26 rfl)<|.p (fa 3 fl34_1 rfl)<|.p (la ag26 rfl)<|?_
  refine TR.st 30 (slK kD [a0.Lo,a0.Lo,a0.Hi,a0.Hi]) [] (snd_buildSlice _ _ _ 3 _ _ [(0,(.agg (kD.enc a0.Lo))),(1,(.agg (kD.enc a0.Lo))),(2,(.agg (kD.enc a0.Hi))),(3,(.agg (kD.enc a0.Hi)))] (List.map kD.enc [a0.Lo,a0.Lo,a0.Hi,a0.Hi]) rfl underlying96 ze26 si26 rfl rfl rfl (by decide) (by decide) (by decide) rfl rfl (Kd.even _) rfl) rfl rfl rfl ?_
  refine .p (sg rfl)<|.nil<|.seq<|.seq<|.region<|.p (fa 0 fl34_0 rfl)<|.p (la ag26 rfl)<|.p (fa 3 fl34_1 rfl)<|.p (la ag26 rfl)<|.p (fa 0 fl34_0 rfl)<|.p (la ag26 rfl)<|.p (fa 3 fl34_1 rfl)<|.p (la ag26 rfl)<|?_
  refine TR.st 39 (slK kD [a1.Lo,a1.Hi,a1.Lo,a1.Hi]) [] (snd_buildSlice _ _ _ 3 _ _ [(0,(.agg (kD.enc a1.Lo))),(1,(.agg (kD.enc a1.Hi))),(2,(.agg (kD.enc a1.Lo))),(3,(.agg (kD.enc a1.Hi)))] (List.map kD.enc [a1.Lo,a1.Hi,a1.Lo,a1.Hi]) rfl underlying96 ze26 si26 rfl rfl rfl (by decide) (by decide) (by decide) rfl rfl (Kd.even _) rfl) rfl rfl rfl ?_
  refine .p (sg rfl)<|.nil<|.seq<|.seq<|.region<|.p (sg rfl)<|.nil<|.seq<|.seq<|.seq<|.region<|.p (sg rfl)<|.nil<|.seq<|?_
  refine T.cut (X:=Int × (List AD)) (fun x=>r06_CMul_j1 a2 x.1 x.2) (fun x=>(mkS [(0,some (.ptr 0 0)),(6,some (.ptr 3 0)),(9,some (grA kD 4 x.2))] [(0,(.live 65 [(.int .i64 a2),(.int .i64 x.1)])),(3,(.live 34 [(.bool false),(slK (kInt .u32) []),(.int .i64 0),(.bool false),(slK (kInt .u32) []),(.int .i64 0)])),(4,(grV kD 26 x.2))])) ?_ ?_
  ·rintro ⟨y64,y65⟩
   dsimp only [r06_CMul_j1]
   refine .seq<|.seq<|?_
   refine T.weak ?_ (fun a w h=>Conc.gr_still kD h 9 4 26 y65 rfl rfl)
   refine .region<|.p (mv rfl)<|.p (mv rfl)<|.bind fun x66 h50=>.p (c0 (r06_least_p h50) rfl)<|.bind fun x67 h51=>.w (cl (r06_Cround_k h51) [0] [] [true] rfl (.p rfl<|.a kD<|.b<|.nil) (.p rfl (.i<|.i<|.nil) .nil) fnil (.cons (.v (.i<|.i<|.nil)) .nil) (ren_agg (K:=kD) _) (.turned .nil) rfl)<|.w (al 5 ze26 rfl)<|.n (sa ag26 rfl)<|.nil<|.seq<|.seq<|.region<|.p (mv rfl)<|?_
   refine .p (mv rfl)<|.bind fun x68 h52=>.p (c0 (r06_greatest_p h52) rfl)<|.bind fun x69 h53=>.w (cl (r06_Cround_k h53) [0] [] [true] rfl (.p rfl<|.a kD<|.b<|.nil) (.p rfl (.i<|.i<|.nil) .nil) fnil (.cons (.v (.i<|.i<|.nil)) .nil) (ren_agg (K:=kD) _) (.turned .nil) rfl)<|.w (al 6 ze26 rfl)<|.n (sa ag26 rfl)<|.nil<|.seq<|.seq<|.region<|.p (mv rfl)<|.p (la ag26 rfl)<|.p (la ag26 rfl)<|?_
   refine .bind fun x70 h54=>.p (cl (r06_Cout_k h54) [0] [] [false] rfl (.p rfl<|.a kD<|.a kD<|.nil) (.p rfl (.i<|.i<|.nil) .nil) fnil (.cons (.v (.i<|.i<|.nil)) .nil) (ren_agg (K:=kI) _) (.kept rfl .nil) rfl)<|.n (sa ag34 rfl)<|.nil<|.seq<|.ret<|fin_1 (.inr rfl) (.k rfl (.nil _)) results115 (.a ag34 rfl) (AVle.refl _)
  ·intro h55
   refine .block<|?_
   refine T.weak ?_ (fun a w h=>Conc.gr_nil kD h 9 4 26 rfl)
   refine .loopW (X:=Int × Int × (List AD)) (fun n x=>r06_CMul_l2 a0 a1 a2 n x.1 x.2.1 x.2.2) (fun x=>(mkS [(0,some (.ptr 0 0)),(6,some (.ptr 3 0)),(7,some (slK kD [a0.Lo,a0.Lo,a0.Hi,a0.Hi])),(8,some (slK kD [a1.Lo,a1.Hi,a1.Lo,a1.Hi])),(9,some (grA kD 4 x.2.2)),(10,some (.int .i64 x.1))] [(0,(.live 65 [(.int .i64 a2),(.int .i64 x.2.1)])),(3,(.live 34 [(.bool false),(slK (kInt .u32) []),(.int .i64 0),(.bool false),(slK (kInt .u32) []),(.int .i64 0)])),(4,(grV kD 26 x.2.2))])) (0,x45.2,[]) (jn (m:=1) [(0,0),(3,3),(4,4)] hE (.p rfl rfl<|.p rfl rfl<|.l rfl<|.l rfl<|.g rfl (ren_gr (K:=kD) (by rfl) [])<|.i rfl<|.nil) (.v rfl (.i<|.i<|.nil)<|.v rfl (.b<|.l<|.i<|.b<|.l<|.i<|.nil)<|.cons (.refl _) (renV_gr (K:=kD) 26 [])<|.nil) rfl) (fun _=>rfl) rfl<|?_
   rintro n2 ⟨y82,y83,y84⟩
   try dsimp only
   rw [r06_CMul_l2]
   refine .seq<|.seq<|.region<|.p (mv rfl)<|.p (ar rfl)<|.nil<|.seq<|?_
   refine T.cond_p rfl iff_dec (fun h86 h87=>?_) (fun h86 h87=>?_)
   ·refine .skip<|.seq<|.seq<|.block<|.seq<|.draw mixed<|.p (mv rfl)<|.p (mv rfl)<|.guard fun h95=>?_
    refine TD.st 47 (.iptr [(.bool ((([a0.Lo,a0.Lo,a0.Hi,a0.Hi].getD y82.toNat zAD).M).Neg)),(slK (kInt .u32) ((([a0.Lo,a0.Lo,a0.Hi,a0.Hi].getD y82.toNat zAD).M).Mag)),(.int .i64 (([a0.Lo,a0.Lo,a0.Hi,a0.Hi].getD y82.toNat zAD).E))]) [] (snd_indexK kD _ _ _ _ _ _ y82 rfl underlying96 si26 rfl rfl rfl rfl h95) rfl rfl rfl ?_
    refine .p (lai ag26 rfl)<|.p (mv rfl)<|.p (mv rfl)<|.guard fun h96=>?_
    refine TD.st 51 (.iptr [(.bool ((([a1.Lo,a1.Hi,a1.Lo,a1.Hi].getD y82.toNat zAD).M).Neg)),(slK (kInt .u32) ((([a1.Lo,a1.Hi,a1.Lo,a1.Hi].getD y82.toNat zAD).M).Mag)),(.int .i64 (([a1.Lo,a1.Hi,a1.Lo,a1.Hi].getD y82.toNat zAD).E))]) [] (snd_indexK kD _ _ _ _ _ _ y82 rfl underlying96 si26 rfl rfl rfl rfl h96) rfl rfl rfl ?_
    refine .p (lai ag26 rfl)<|.bind fun x87 h97=>.p (c0 (r05_Mul_p h97) rfl)<|.p (mv rfl)<|.p (xt rfl)<|.p (xt rfl)<|.w (al 5 ze26 rfl)<|.n (sa ag26 rfl)<|.p (sg rfl)<|.nil (by kernel_rfl)<|.seq<|.seq<|.seq<|.region<|?_
    refine .p (mv rfl)<|.p (mv rfl)<|.bind fun x88 h98=>.w (cl (r06_Cerr_k h98) [0] [] [true] rfl (.p rfl<|.i<|.nil) (.p rfl (.i<|.i<|.nil) .nil) fnil (.cons (.v (.i<|.i<|.nil)) .nil) (.bool _) (.turned .nil) rfl)<|.p (un rfl)<|.nil<|.seq<|?_
    refine T.cond_p rfl iff_nb (fun h99 h100=>?_) (fun h99 h100=>?_)
    ·refine .seq<|.region<|.p (bd ze34 pl34 rfl)<|.n (sa ag34 rfl)<|.nil<|.seq<|.ret<|.seq_ret<|.block_ret<|.seq_ret<|.loop_ret<|.block_ret<|.seq_ret<|fin_1 (.inr rfl) (.k rfl (.nil _)) results115 (.a ag34 rfl) (AVle.refl _)
    ·refine .skip<|.seq<|.region<|.p (mv rfl)<|.p (la ag26 rfl)<|?_
     refine TR.st 63 (slK kD [(⟨((x87.1).M),(x87.1).E⟩:AD)]) [] (snd_buildSlice _ _ _ 3 _ _ [(0,(.agg (kD.enc (⟨((x87.1).M),(x87.1).E⟩:AD))))] (List.map kD.enc [(⟨((x87.1).M),(x87.1).E⟩:AD)]) rfl underlying96 ze26 si26 rfl rfl rfl (by decide) (by decide) (by decide) rfl rfl (Kd.even _) rfl) rfl rfl rfl ?_
     refine .guard fun h101=>?_
     refine TR.st 64 (.row 6 kD.sz 0 (((y84++[(⟨((x87.1).M),(x87.1).E⟩:AD)])).length)) [(6,(rwK kD 26 (y84++[(⟨((x87.1).M),(x87.1).E⟩:AD)]))),(4,.dead)] (snd_appendK_gr kD _ _ _ _ _ 4 6 y84 [(⟨((x87.1).M),(x87.1).E⟩:AD)] rfl underlying96 ze26 sb26 rfl rfl rfl rfl rfl rfl rfl h101) rfl rfl rfl ?_
     refine .p (sg rfl)<|.nil<|.block<|.seq<|.region<|.p (mv rfl)<|.p (ar rfl)<|.p (sg rfl)<|.nil<|?_
     refine TQ.weak ?_ (fun a w h=>Conc.gr_row kD h 9 6 26 (y84++[(⟨((x87.1).M),(x87.1).E⟩:AD)]) rfl rfl (by first | omega | (simp only [List.length_append,List.length_cons,List.length_set]; omega) | simp))
     exact TQ.again ((IntKind.i64.wrap (y82+1)),x88.2,(y84++[(⟨((x87.1).M),(x87.1).E⟩:AD)])) (jn (m:=1) [(0,0),(3,3),(6,4)] hE (.p rfl rfl<|.p rfl rfl<|.l rfl<|.l rfl<|.g rfl (ren_gr (K:=kD) (by rfl) (y84++[(⟨((x87.1).M),(x87.1).E⟩:AD)]))<|.i rfl<|.nil) (.v rfl (.i<|.i<|.nil)<|.v rfl (.b<|.l<|.i<|.b<|.l<|.i<|.nil)<|.cons (.refl _) (renV_gr (K:=kD) 26 (y84++[(⟨((x87.1).M),(x87.1).E⟩:AD)]))<|.nil) rfl) rfl
   ·refine .exit<|.seq_exit<|.loop_exit<|.block_exit<|.weak (h55 (y83,y84)) (jn (m:=1) [(0,0),(3,3),(4,4)] hE (.p rfl rfl<|.p rfl rfl<|.g rfl (ren_gr (K:=kD) (by rfl) y84)<|.nil) (.v rfl (.i<|.i<|.nil)<|.v rfl (.b<|.l<|.i<|.b<|.l<|.i<|.nil)<|.cons (.refl _) (renV_gr (K:=kD) 26 y84)<|.nil) rfl)
theorem r06_CMul_k {a0:AI} {a1:AI} {a2:Int} {a3:Int} {r:AI × Int} (h:r06_CMul a0 a1 a2 a3=some r):Cal Tryz.prog 115 [(.ptr 0 0),(.agg (kI.enc a0)),(.agg (kI.enc a1))] [(.live 65 [(.int .i64 a2),(.int .i64 a3)])] (.agg (kI.enc (⟨⟨(((r.1).Lo).M),((r.1).Lo).E⟩,⟨(((r.1).Hi).M),((r.1).Hi).E⟩⟩:AI))) [(.live 65 [(.int .i64 a2),(.int .i64 r.2)])]:=⟨⟨_,func115,nm115,rfl⟩,r06_CMul_c a0 a1 a2 a3 _ h⟩
theorem r07_Terms_c (a0:Int):∀ r,r07_Terms a0=some r→ACalls Tryz.prog 57 [(.int .i64 a0)] (lw []) (.int .i64 r) (ld []):=by
 unfold r07_Terms
 refine go 0 func57 ntmps57 rfl ?_
 intro E hE
 refine .seq<|.region<|.p (sg rfl)<|.nil<|.seq<|.seq<|.region<|.p (mv rfl)<|?_
 refine TR.st 4 (.int .i64 (mx a0 0)) [] (snd_max _ _ _ _ _ _ rfl rfl rfl rfl rfl) rfl rfl rfl ?_
 refine TR.st 5 (.int .i64 (mn (mx a0 0) 400)) [] (snd_min _ _ _ _ _ _ rfl rfl rfl rfl rfl) rfl rfl rfl ?_
 refine TR.st 6 (.int .i64 (IntKind.i64.wrap ((mn (mx a0 0) 400).tdiv 2))) [] (snd_quo _ _ _ _ _ _ _ rfl rfl rfl rfl rfl (by decide)) rfl rfl rfl ?_
 refine .p (ar rfl)<|.p (sg rfl)<|.nil<|.seq<|.ret<|fin_1 (.inr rfl) (.nil _) results57 (.t rfl) (AVle.refl _)
theorem r07_Terms_p {a0:Int} {r:Int} (h:r07_Terms a0=some r):Pur Tryz.prog 57 [(.int .i64 a0)] (.int .i64 r):=⟨⟨_,func57,nm57,rfl⟩,r07_Terms_c a0 _ h,fun _=>(.i<|.nil),fun _=>(.int _ _)⟩
theorem r06_CNeg_c (a0:AI) (a1:Int) (a2:Int):∀ r,r06_CNeg a0 a1 a2=some r→ACalls Tryz.prog 118 [(.ptr 0 0),(.agg (kI.enc a0))] (lw [(.live 65 [(.int .i64 a1),(.int .i64 a2)])]) (.agg (kI.enc (⟨⟨(((r.1).Lo).M),((r.1).Lo).E⟩,⟨(((r.1).Hi).M),((r.1).Hi).E⟩⟩:AI))) (ld [(.live 65 [(.int .i64 a1),(.int .i64 r.2)])]):=by
 unfold r06_CNeg
 refine go 1 func118 ntmps118 rfl ?_
 intro E hE
 refine .seq<|.region<|.w (bx 1 rfl)<|.w (al 2 ze34 rfl)<|.nil<|.seq<|.seq<|.seq<|.region<|.p (mv rfl)<|.p (la ag34 rfl)<|?_
 refine TR.st 7 (slK kI [a0]) [] (snd_buildSlice _ _ _ 6 _ _ [(0,(.agg (kI.enc a0)))] (List.map kI.enc [a0]) rfl underlying104 ze34 si34 rfl rfl rfl (by decide) (by decide) (by decide) rfl rfl (Kd.even _) rfl) rfl rfl rfl ?_
 refine .bind fun x4 h1=>.w (cl (r06_Carg_k h1) [0] [] [true] rfl (.p rfl<|.l<|.nil) (.p rfl (.i<|.i<|.nil) .nil) fnil (.cons (.v (.i<|.i<|.nil)) .nil) (.bool _) (.turned .nil) rfl)<|.p (un rfl)<|.nil<|.seq<|?_
 refine T.cond_p rfl iff_nb (fun h2 h3=>?_) (fun h2 h3=>?_)
 ·refine .seq<|.region<|.p (bd ze34 pl34 rfl)<|.n (sa ag34 rfl)<|.nil<|.seq<|.ret<|.seq_ret<|fin_1 (.inr rfl) (.k rfl (.nil _)) results118 (.a ag34 rfl) (AVle.refl _)
 ·refine .skip<|.seq<|.seq<|.draw mixed<|.p (fa 3 fl34_1 rfl)<|.p (la ag26 rfl)<|.bind fun x5 h4=>.p (c0 (r05_Neg_p h4) rfl)<|.p (fa 0 fl34_0 rfl)<|.p (la ag26 rfl)<|.bind fun x6 h5=>.p (c0 (r05_Neg_p h5) rfl)<|.p (bd ze34 pl34 rfl)<|.n (sa ag34 rfl)<|?_
  refine .nil (by kernel_rfl)<|.seq<|.ret<|fin_1 (.inr rfl) (.k rfl (.nil _)) results118 (.a ag34 rfl) (AVle.refl _)
theorem r06_CNeg_k {a0:AI} {a1:Int} {a2:Int} {r:AI × Int} (h:r06_CNeg a0 a1 a2=some r):Cal Tryz.prog 118 [(.ptr 0 0),(.agg (kI.enc a0))] [(.live 65 [(.int .i64 a1),(.int .i64 a2)])] (.agg (kI.enc (⟨⟨(((r.1).Lo).M),((r.1).Lo).E⟩,⟨(((r.1).Hi).M),((r.1).Hi).E⟩⟩:AI))) [(.live 65 [(.int .i64 a1),(.int .i64 r.2)])]:=⟨⟨_,func118,nm118,rfl⟩,r06_CNeg_c a0 a1 a2 _ h⟩
theorem r04_Add_c (a0:ApiInt) (a1:ApiInt):∀ r,r04_Add a0 a1=some r→ACalls Tryz.prog 215 [(.agg (kN.enc a0)),(.agg (kN.enc a1))] (lw []) (.agg (kN.enc (r))) (ld []):=by
 unfold r04_Add
 refine go 0 func215 ntmps215 rfl ?_
 intro E hE
 refine .seq<|.region<|.w (bx 0 rfl)<|.w (bx 1 rfl)<|.w (al 2 ze24 rfl)<|.nil<|.seq<|.seq<|.seq<|.region<|.p (fa 0 fl24_0 rfl)<|.p (ls sc4 rfl)<|.p (fa 0 fl24_0 rfl)<|.p (ls sc4 rfl)<|?_
 refine TR.st 11 (.bool (a0.Neg == a1.Neg)) [] (snd_bool_eql _ _ _ _ _ _ rfl underlying4 rfl rfl rfl rfl) rfl rfl rfl ?_
 refine .nil<|.seq<|?_
 refine T.cond_p rfl iff_b (fun h1 h2=>?_) (fun h1 h2=>?_)
 ·refine .seq<|.draw mixed<|.p (fa 0 fl24_0 rfl)<|.p (ls sc4 rfl)<|.p (fa 1 fl24_1 rfl)<|.p (ls sc22 rfl)<|.p (fa 1 fl24_1 rfl)<|.p (ls sc22 rfl)<|.bind fun x7 h3=>.p (c0 (r01_Add_p h3) rfl)<|.bind fun x8 h4=>.p (c0 (r04_Make_p h4) rfl)<|.n (sa ag24 rfl)<|.nil (by kernel_rfl)<|?_
  refine .seq<|.ret<|.seq_ret<|fin_1 (.inr rfl) (.nil _) results215 (.a ag24 rfl) (AVle.refl _)
 ·refine .skip<|.seq<|.seq<|.region<|.p (fa 1 fl24_1 rfl)<|.p (ls sc22 rfl)<|.p (fa 1 fl24_1 rfl)<|.p (ls sc22 rfl)<|.bind fun x9 h5=>.p (c0 (r01_Sub_p h5) rfl)<|.p (mv rfl)<|.p (xt rfl)<|.p (xt rfl)<|.p (sg rfl)<|?_
  refine .p (sg rfl)<|.nil<|.seq<|.seq<|.seq<|.region<|.p (mv rfl)<|.nil<|.seq<|?_
  refine T.cond_p rfl iff_b (fun h6 h7=>?_) (fun h6 h7=>?_)
  ·refine .seq<|.region<|.p (fa 0 fl24_0 rfl)<|.p (ls sc4 rfl)<|.p (mv rfl)<|.bind fun x10 h8=>.p (c0 (r04_Make_p h8) rfl)<|.n (sa ag24 rfl)<|.nil<|.seq<|.ret<|.seq_ret<|fin_1 (.inr rfl) (.nil _) results215 (.a ag24 rfl) (AVle.refl _)
  ·refine .skip<|.seq<|.seq<|.region<|.p (fa 1 fl24_1 rfl)<|.p (ls sc22 rfl)<|.p (fa 1 fl24_1 rfl)<|.p (ls sc22 rfl)<|.bind fun x11 h9=>.p (c0 (r01_Sub_p h9) rfl)<|.p (mv rfl)<|.p (xt rfl)<|.p (xt rfl)<|.p (sg rfl)<|?_
   refine .nil<|.seq<|.seq<|.region<|.p (fa 0 fl24_0 rfl)<|.p (ls sc4 rfl)<|.p (mv rfl)<|.bind fun x12 h10=>.p (c0 (r04_Make_p h10) rfl)<|.n (sa ag24 rfl)<|.nil<|.seq<|.ret<|fin_1 (.inr rfl) (.nil _) results215 (.a ag24 rfl) (AVle.refl _)
theorem r04_Add_p {a0:ApiInt} {a1:ApiInt} {r:ApiInt} (h:r04_Add a0 a1=some r):Pur Tryz.prog 215 [(.agg (kN.enc a0)),(.agg (kN.enc a1))] (.agg (kN.enc (r))):=⟨⟨_,func215,nm215,rfl⟩,r04_Add_c a0 a1 _ h,fun _=>(.a kN<|.a kN<|.nil),fun _=>(ren_agg (K:=kN) _)⟩
theorem r05_Add_c (a0:AD) (a1:AD):∀ r,r05_Add a0 a1=some r→ACalls Tryz.prog 200 [(.agg (kD.enc a0)),(.agg (kD.enc a1))] (lw []) (.tup [(.agg (kD.enc (⟨((r.1).M),(r.1).E⟩:AD))),(.int .i64 r.2)]) (ld []):=by
 unfold r05_Add
 refine go 0 func200 ntmps200 rfl ?_
 intro E hE
 refine .seq<|.region<|.w (bx 0 rfl)<|.w (bx 1 rfl)<|.w (al 2 ze26 rfl)<|.p (sg rfl)<|.nil<|.seq<|.seq<|.region<|.p (la ag26 rfl)<|.bind fun x8 h1=>.p (c0 (r05_Right_p h1) rfl)<|.p (sg rfl)<|?_
 refine .nil<|.seq<|.seq<|.region<|.p (la ag26 rfl)<|.bind fun x9 h2=>.p (c0 (r05_Right_p h2) rfl)<|.p (sg rfl)<|.nil<|.seq<|.seq<|.seq<|?_
 refine T.cut (X:=Bool) (fun x=>r05_Add_j1 a0 a1 x) (fun x=>(mkS [(2,some (.ptr 0 0)),(3,some (.ptr 1 0)),(4,some (.ptr 2 0)),(20,some (.bool x))] [(0,(.live 26 [(.bool a0.M.Neg),(slK (kInt .u32) a0.M.Mag),(.int .i64 a0.E)])),(1,(.live 26 [(.bool a1.M.Neg),(slK (kInt .u32) a1.M.Mag),(.int .i64 a1.E)])),(2,(.live 26 [(.bool false),(slK (kInt .u32) []),(.int .i64 0)]))])) ?_ ?_
 ·rintro y10
  dsimp only [r05_Add_j1]
  refine .seq<|?_
  refine T.cond_p rfl iff_b (fun h4 h5=>?_) (fun h4 h5=>?_)
  ·refine .seq<|.region<|.p (bd ze26 pl26 rfl)<|.n (sa ag26 rfl)<|.p (sg rfl)<|.nil<|.seq<|.ret<|.seq_ret<|fin_2 (.inr rfl) (.nil _) results200 (.a ag26 rfl) (.t rfl) (AVle.refl _)
  ·refine .skip<|.seq<|.seq<|.region<|.p (la ag26 rfl)<|.p (la ag26 rfl)<|.bind fun x11 h6=>.p (c0 (r05_lift_p h6) rfl)<|.p (mv rfl)<|.p (xt rfl)<|.p (xt rfl)<|.p (xt rfl)<|.w (al 3 ze24 rfl)<|.w (al 4 ze24 rfl)<|?_
   refine .n (sa ag24 rfl)<|.n (sa ag24 rfl)<|.p (sg rfl)<|.nil<|.seq<|.seq<|.region<|.p (la ag24 rfl)<|.p (la ag24 rfl)<|.bind fun x12 h7=>.p (c0 (r04_Add_p h7) rfl)<|.p (mv rfl)<|.bind fun x13 h8=>.p (c0 (r05_norm_p h8) rfl)<|?_
   refine .bind fun x14 h9=>.p (c0 (r05_told_p h9) rfl)<|.p (xt rfl)<|.p (xt rfl)<|.n (sa ag26 rfl)<|.p (sg rfl)<|.nil<|.seq<|.ret<|fin_2 (.inr rfl) (.nil _) results200 (.a ag26 rfl) (.t rfl) (AVle.refl _)
 ·intro h10
  refine .region<|.p (mv rfl)<|.p (un rfl)<|.p (mv rfl)<|?_
  refine TR.gd 17 _ rfl iff_nb (fun h11=>?_) (fun h11=>?_)
  ·refine .k rfl<|.k rfl<|.p (pt rfl)<|.nil<|.weak (h10 true) (jn (m:=0) [(0,0),(1,1),(2,2)] hE (.p rfl rfl<|.p rfl rfl<|.p rfl rfl<|.b rfl<|.nil) (.v rfl (.b<|.l<|.i<|.nil)<|.v rfl (.b<|.l<|.i<|.nil)<|.v rfl (.b<|.l<|.i<|.nil)<|.nil) rfl)
  ·refine .p (mv rfl)<|.p (un rfl)<|.p (pf rfl)<|.nil<|.weak (h10 (!x9)) (jn (m:=0) [(0,0),(1,1),(2,2)] hE (.p rfl rfl<|.p rfl rfl<|.p rfl rfl<|.b rfl<|.nil) (.v rfl (.b<|.l<|.i<|.nil)<|.v rfl (.b<|.l<|.i<|.nil)<|.v rfl (.b<|.l<|.i<|.nil)<|.nil) rfl)
theorem r05_Add_p {a0:AD} {a1:AD} {r:AD × Int} (h:r05_Add a0 a1=some r):Pur Tryz.prog 200 [(.agg (kD.enc a0)),(.agg (kD.enc a1))] (.tup [(.agg (kD.enc (⟨((r.1).M),(r.1).E⟩:AD))),(.int .i64 r.2)]):=⟨⟨_,func200,nm200,rfl⟩,r05_Add_c a0 a1 _ h,fun _=>(.a kD<|.a kD<|.nil),fun _=>(ren_tupL (.a kD<|.i<|.nil))⟩
theorem r06_Cadd_c (a0:AD) (a1:AD) (a2:Int) (a3:Int):∀ r,r06_Cadd a0 a1 a2 a3=some r→ACalls Tryz.prog 173 [(.ptr 0 0),(.agg (kD.enc a0)),(.agg (kD.enc a1))] (lw [(.live 65 [(.int .i64 a2),(.int .i64 a3)])]) (.agg (kD.enc (⟨((r.1).M),(r.1).E⟩:AD))) (ld [(.live 65 [(.int .i64 a2),(.int .i64 r.2)])]):=by
 unfold r06_Cadd
 refine go 1 func173 ntmps173 rfl ?_
 intro E hE
 refine .seq<|.region<|.w (bx 1 rfl)<|.w (bx 2 rfl)<|.w (al 3 ze26 rfl)<|.nil<|.seq<|.seq<|.seq<|.region<|.p (mv rfl)<|.p (nc rfl)<|.p (fa 1 fl65_1 rfl)<|.p (ls sc3 rfl)<|?_
 refine .p (ar rfl)<|.nil<|.seq<|?_
 refine T.cond_p rfl iff_ne (fun h1 h2=>?_) (fun h1 h2=>?_)
 ·refine .seq<|.region<|.p (bd ze26 pl26 rfl)<|.n (sa ag26 rfl)<|.nil<|.seq<|.ret<|.seq_ret<|fin_1 (.inr rfl) (.k rfl (.nil _)) results173 (.a ag26 rfl) (AVle.refl _)
 ·refine .skip<|.seq<|.seq<|.region<|.p (la ag26 rfl)<|.p (la ag26 rfl)<|.bind fun x3 h3=>.p (c0 (r05_Add_p h3) rfl)<|.p (mv rfl)<|.p (xt rfl)<|.p (xt rfl)<|.w (al 4 ze26 rfl)<|.n (sa ag26 rfl)<|.p (sg rfl)<|?_
  refine .nil<|.seq<|.seq<|.region<|.p (mv rfl)<|.p (mv rfl)<|.bind fun x4 h4=>.w (cl (r06_Cerr_k h4) [0] [] [true] rfl (.p rfl<|.i<|.nil) (.p rfl (.i<|.i<|.nil) .nil) fnil (.cons (.v (.i<|.i<|.nil)) .nil) (.bool _) (.turned .nil) rfl)<|.nil<|.seq<|.seq<|.region<|.p (la ag26 rfl)<|.n (sa ag26 rfl)<|?_
  refine .nil<|.seq<|.ret<|fin_1 (.inr rfl) (.k rfl (.nil _)) results173 (.a ag26 rfl) (AVle.refl _)
theorem r06_Cadd_k {a0:AD} {a1:AD} {a2:Int} {a3:Int} {r:AD × Int} (h:r06_Cadd a0 a1 a2 a3=some r):Cal Tryz.prog 173 [(.ptr 0 0),(.agg (kD.enc a0)),(.agg (kD.enc a1))] [(.live 65 [(.int .i64 a2),(.int .i64 a3)])] (.agg (kD.enc (⟨((r.1).M),(r.1).E⟩:AD))) [(.live 65 [(.int .i64 a2),(.int .i64 r.2)])]:=⟨⟨_,func173,nm173,rfl⟩,r06_Cadd_c a0 a1 a2 a3 _ h⟩
theorem r06_CAdd_c (a0:AI) (a1:AI) (a2:Int) (a3:Int):∀ r,r06_CAdd a0 a1 a2 a3=some r→ACalls Tryz.prog 116 [(.ptr 0 0),(.agg (kI.enc a0)),(.agg (kI.enc a1))] (lw [(.live 65 [(.int .i64 a2),(.int .i64 a3)])]) (.agg (kI.enc (⟨⟨(((r.1).Lo).M),((r.1).Lo).E⟩,⟨(((r.1).Hi).M),((r.1).Hi).E⟩⟩:AI))) (ld [(.live 65 [(.int .i64 a2),(.int .i64 r.2)])]):=by
 unfold r06_CAdd
 refine go 1 func116 ntmps116 rfl ?_
 intro E hE
 refine .seq<|.region<|.w (bx 1 rfl)<|.w (bx 2 rfl)<|.w (al 3 ze34 rfl)<|.nil<|.seq<|.seq<|.seq<|.region<|.p (mv rfl)<|.p (la ag34 rfl)<|.p (la ag34 rfl)<|?_
 refine TR.st 12 (slK kI [a0,a1]) [] (snd_buildSlice _ _ _ 6 _ _ [(0,(.agg (kI.enc a0))),(1,(.agg (kI.enc a1)))] (List.map kI.enc [a0,a1]) rfl underlying104 ze34 si34 rfl rfl rfl (by decide) (by decide) (by decide) rfl rfl (Kd.even _) rfl) rfl rfl rfl ?_
 refine .bind fun x7 h1=>.w (cl (r06_Carg_k h1) [0] [] [true] rfl (.p rfl<|.l<|.nil) (.p rfl (.i<|.i<|.nil) .nil) fnil (.cons (.v (.i<|.i<|.nil)) .nil) (.bool _) (.turned .nil) rfl)<|.p (un rfl)<|.nil<|.seq<|?_
 refine T.cond_p rfl iff_nb (fun h2 h3=>?_) (fun h2 h3=>?_)
 ·refine .seq<|.region<|.p (bd ze34 pl34 rfl)<|.n (sa ag34 rfl)<|.nil<|.seq<|.ret<|.seq_ret<|fin_1 (.inr rfl) (.k rfl (.nil _)) results116 (.a ag34 rfl) (AVle.refl _)
 ·refine .skip<|.seq<|.seq<|.region<|.p (mv rfl)<|.p (mv rfl)<|.p (fa 0 fl34_0 rfl)<|.p (la ag26 rfl)<|.p (fa 0 fl34_0 rfl)<|.p (la ag26 rfl)<|.bind fun x8 h4=>.w (cl (r06_Cadd_k h4) [0] [] [true] rfl (.p rfl<|.a kD<|.a kD<|.nil) (.p rfl (.i<|.i<|.nil) .nil) fnil (.cons (.v (.i<|.i<|.nil)) .nil) (ren_agg (K:=kD) _) (.turned .nil) rfl)<|.bind fun x9 h5=>.w (cl (r06_Cround_k h5) [0] [] [true] rfl (.p rfl<|.a kD<|.b<|.nil) (.p rfl (.i<|.i<|.nil) .nil) fnil (.cons (.v (.i<|.i<|.nil)) .nil) (ren_agg (K:=kD) _) (.turned .nil) rfl)<|?_
  refine .w (al 4 ze26 rfl)<|.n (sa ag26 rfl)<|.nil<|.seq<|.seq<|.region<|.p (mv rfl)<|.p (mv rfl)<|.p (fa 3 fl34_1 rfl)<|.p (la ag26 rfl)<|.p (fa 3 fl34_1 rfl)<|.p (la ag26 rfl)<|.bind fun x10 h6=>.w (cl (r06_Cadd_k h6) [0] [] [true] rfl (.p rfl<|.a kD<|.a kD<|.nil) (.p rfl (.i<|.i<|.nil) .nil) fnil (.cons (.v (.i<|.i<|.nil)) .nil) (ren_agg (K:=kD) _) (.turned .nil) rfl)<|?_
  refine .bind fun x11 h7=>.w (cl (r06_Cround_k h7) [0] [] [true] rfl (.p rfl<|.a kD<|.b<|.nil) (.p rfl (.i<|.i<|.nil) .nil) fnil (.cons (.v (.i<|.i<|.nil)) .nil) (ren_agg (K:=kD) _) (.turned .nil) rfl)<|.w (al 5 ze26 rfl)<|.n (sa ag26 rfl)<|.nil<|.seq<|.seq<|.region<|.p (mv rfl)<|.p (la ag26 rfl)<|.p (la ag26 rfl)<|.bind fun x12 h8=>.p (cl (r06_Cout_k h8) [0] [] [false] rfl (.p rfl<|.a kD<|.a kD<|.nil) (.p rfl (.i<|.i<|.nil) .nil) fnil (.cons (.v (.i<|.i<|.nil)) .nil) (ren_agg (K:=kI) _) (.kept rfl .nil) rfl)<|.n (sa ag34 rfl)<|?_
  refine .nil<|.seq<|.ret<|fin_1 (.inr rfl) (.k rfl (.nil _)) results116 (.a ag34 rfl) (AVle.refl _)
theorem r06_CAdd_k {a0:AI} {a1:AI} {a2:Int} {a3:Int} {r:AI × Int} (h:r06_CAdd a0 a1 a2 a3=some r):Cal Tryz.prog 116 [(.ptr 0 0),(.agg (kI.enc a0)),(.agg (kI.enc a1))] [(.live 65 [(.int .i64 a2),(.int .i64 a3)])] (.agg (kI.enc (⟨⟨(((r.1).Lo).M),((r.1).Lo).E⟩,⟨(((r.1).Hi).M),((r.1).Hi).E⟩⟩:AI))) [(.live 65 [(.int .i64 a2),(.int .i64 r.2)])]:=⟨⟨_,func116,nm116,rfl⟩,r06_CAdd_c a0 a1 a2 a3 _ h⟩
end Go.Proofs.YtpmpcohbpankaaaGreat.Gen
