/- Printed by gen.py: a call does what the plain function says. -/
import Derived.Test.YtpmpcohbpankaaaGreatKonstToldGenP0
namespace Go.Proofs.YtpmpcohbpankaaaGreat.Gen
open Go Go.Abs Go.Proofs Go.Proofs.Tryz
theorem quo_give_c (a0:Nat) (a1:Nat) (a2:List Int) (a3:List Int):∀ r,quo_give a0 a1 a2 a3=some r→ACalls Tryz.prog 209 [(.row 0 (kInt .u32).sz a0 a1),(slK (kInt .u32) a2)] (lw [(rwK (kInt .u32) 77 a3)]) (.tup []) (ld [(rwK (kInt .u32) 77 r)]):=by
 unfold quo_give
 refine go 1 func209 ntmps209 rfl ?_
 intro E hE
 refine .seq<|.region<|.p (sg rfl)<|.nil<|.seq<|.seq<|.seq<|.region<|.p (mv rfl)<|.p (ln underlying22 rfl)<|.p (mv rfl)<|.nil<|.seq<|?_
 refine T.cut (X:=Int × (List Int)) (fun x=>quo_give_j1 a2 a1 a0 x.1 x.2) (fun x=>(mkS [(0,some (.row 0 (kInt .u32).sz a0 a1)),(1,some (slK (kInt .u32) a2)),(4,some (.int .u32 x.1))] [(0,(rwK (kInt .u32) 77 x.2))])) ?_ ?_
 ·rintro ⟨y39,y40⟩
  dsimp only [quo_give_j1]
  refine .seq<|.region<|.p (mv rfl)<|.p (mv rfl)<|.p (ln underlying22 rfl)<|.guard fun h31=>?_
  obtain ⟨h311,h312,h313⟩:=h31
  refine TR.st 31 (.rptr 0 (kInt .u32).sz (a0+a2.length) 0) [] (idx_r (snd_index_r _ _ _ _ _ 0 a0 a1 _ (a2.length:Int) rfl underlying22 si77 rfl rfl rfl rfl h311 (by omega)) rfl) rfl rfl rfl ?_
  refine TR.st 32 (.int .u32 ((y40).getD (a0+a2.length) (kInt .u32).z)) [] (snd_loadK_sca (kInt .u32) _ _ 0 (a0+a2.length) 0 _ _ rfl sc77 rfl rfl rfl rfl (by first | omega | (simp only [List.length_set]; omega)) (by decide)) rfl rfl rfl ?_
  refine .p (mv rfl)<|.p (ar rfl)<|.guard fun h32=>?_
  obtain ⟨h321,h322,h323⟩:=h32
  refine TR.st 35 (.rptr 0 (kInt .u32).sz (a0+a2.length) 0) [] (idx_r (snd_index_r _ _ _ _ _ 0 a0 a1 _ (a2.length:Int) rfl underlying22 si77 rfl rfl rfl rfl h321 (by omega)) rfl) rfl rfl rfl ?_
  refine TR.sn [(0,(rwK (kInt .u32) 77 ((y40).set (a0+a2.length) (IntKind.u32.wrap (((y40).getD (a0+a2.length) (kInt .u32).z)+y39)))))] (snd_storeK_sca (kInt .u32) _ _ _ 0 (a0+a2.length) _ _ (IntKind.u32.wrap (((y40).getD (a0+a2.length) (kInt .u32).z)+y39)) _ rfl rfl rfl sc77 rfl rfl rfl rfl rfl rfl (by first | omega | (simp only [List.length_set]; omega))) rfl rfl ?_
  refine .nil<|fin_0 (.inl rfl) (.k rfl (.nil _)) results209  (AVle.refl _)
 ·intro h33
  refine .block<|.loopW (X:=Int × Int × (List Int)) (fun n x=>quo_give_l2 a2 a1 a0 n x.1 x.2.1 x.2.2) (fun x=>(mkS [(0,some (.row 0 (kInt .u32).sz a0 a1)),(1,some (slK (kInt .u32) a2)),(4,some (.int .u32 x.1)),(7,some (slK (kInt .u32) a2)),(8,some (.int .i64 (a2.length:Int))),(9,some (.int .i64 x.2.1))] [(0,(rwK (kInt .u32) 77 x.2.2))])) (0,0,a3) (jn (m:=1) [(0,0)] hE (.g rfl (.row _ _ _ _ _ rfl)<|.l rfl<|.i rfl<|.l rfl<|.i rfl<|.i rfl<|.nil) (.cons (.refl _) (renV_rw _ _)<|.nil) rfl) (fun _=>rfl) rfl<|?_
  rintro n2 ⟨y48,y49,y50⟩
  try dsimp only
  rw [quo_give_l2]
  refine .seq<|.region<|.p (ar rfl)<|.nil<|.seq<|.seq<|?_
  refine T.cond_p rfl iff_dec (fun h54 h55=>?_) (fun h54 h55=>?_)
  ·refine .skip<|.seq<|.seq<|.block<|.seq<|.region<|.p (mv rfl)<|.guard fun h60=>?_
   refine TR.st 12 (.iptr [(.int .u32 (a2.getD y49.toNat (kInt .u32).z))]) [] (snd_indexK (kInt .u32) _ _ _ _ _ _ y49 rfl underlying22 si77 rfl rfl rfl rfl h60) rfl rfl rfl ?_
   refine .p (lsi sc77 rfl)<|.p (sg rfl)<|.p (sg rfl)<|.nil<|.seq<|.region<|.p (mv rfl)<|.p (mv rfl)<|.p (mv rfl)<|.p (mv rfl)<|.guard fun h61=>?_
   obtain ⟨h611,h612,h613⟩:=h61
   refine TR.st 19 (.rptr 0 (kInt .u32).sz (a0+y49.toNat) 0) [] (idx_r (snd_index_r _ _ _ _ _ 0 a0 a1 _ y49 rfl underlying22 si77 rfl rfl rfl rfl h611 (by omega)) rfl) rfl rfl rfl ?_
   refine TR.st 20 (.int .u32 ((y50).getD (a0+y49.toNat) (kInt .u32).z)) [] (snd_loadK_sca (kInt .u32) _ _ 0 (a0+y49.toNat) 0 _ _ rfl sc77 rfl rfl rfl rfl (by first | omega | (simp only [List.length_set]; omega)) (by decide)) rfl rfl rfl ?_
   refine .p (mv rfl)<|.p (mv rfl)<|.bind fun x52 h62=>.p (c0 (mb_Add32_p h62) rfl)<|.p (mv rfl)<|.p (xt rfl)<|.p (xt rfl)<|.guard fun h63=>?_
   obtain ⟨h631,h632,h633⟩:=h63
   refine TR.st 26 (.rptr 0 (kInt .u32).sz (a0+y49.toNat) 0) [] (idx_r (snd_index_r _ _ _ _ _ 0 a0 a1 _ y49 rfl underlying22 si77 rfl rfl rfl rfl h631 (by omega)) rfl) rfl rfl rfl ?_
   refine TR.sn [(0,(rwK (kInt .u32) 77 ((y50).set (a0+y49.toNat) x52.1)))] (snd_storeK_sca (kInt .u32) _ _ _ 0 (a0+y49.toNat) _ _ x52.1 _ rfl rfl rfl sc77 rfl rfl rfl rfl rfl rfl (by first | omega | (simp only [List.length_set]; omega))) rfl rfl ?_
   refine .p (sg rfl)<|.nil<|.block<|.seq<|.region<|.p (ar rfl)<|.p (mv rfl)<|.nil<|.again (x52.2,(IntKind.i64.wrap (y49+1)),((y50).set (a0+y49.toNat) x52.1)) (jn (m:=1) [(0,0)] hE (.g rfl (.row _ _ _ _ _ rfl)<|.l rfl<|.i rfl<|.l rfl<|.i rfl<|.i rfl<|.nil) (.cons (.refl _) (renV_rw _ _)<|.nil) rfl) rfl
  ·refine .exit<|.seq_exit<|.loop_exit<|.block_exit<|.weak (h33 (y48,y50)) (jn (m:=1) [(0,0)] hE (.g rfl (.row _ _ _ _ _ rfl)<|.l rfl<|.i rfl<|.nil) (.cons (.refl _) (renV_rw _ _)<|.nil) rfl)
theorem quo_give_k {a0:Nat} {a1:Nat} {a2:List Int} {a3:List Int} {r:(List Int)} (h:quo_give a0 a1 a2 a3=some r):Cal Tryz.prog 209 [(.row 0 (kInt .u32).sz a0 a1),(slK (kInt .u32) a2)] [(rwK (kInt .u32) 77 a3)] (.tup []) [(rwK (kInt .u32) 77 r)]:=⟨⟨_,func209,nm209,rfl⟩,quo_give_c a0 a1 a2 a3 _ h⟩
theorem quo_long_c (a0:List Int) (a1:List Int):∀ r,quo_long a0 a1=some r→ACalls Tryz.prog 190 [(slK (kInt .u32) a0),(slK (kInt .u32) a1)] (lw []) (.tup [(slK (kInt .u32) r.1),(slK (kInt .u32) r.2.1),(.bool r.2.2)]) (ld []):=by
 unfold quo_long
 refine go 0 func190 ntmps190 rfl ?_
 intro E hE
 refine .seq<|.region<|?_
 refine TR.st 4 (slK (kInt .u32) []) [] (Snd.le (snd_assign _ _ rfl rfl rfl rfl) AVle.nil) rfl rfl rfl ?_
 refine TR.st 5 (slK (kInt .u32) []) [] (Snd.le (snd_assign _ _ rfl rfl rfl rfl) AVle.nil) rfl rfl rfl ?_
 refine .p (sg rfl)<|.nil<|.seq<|.seq<|.region<|.p (mv rfl)<|.p (mv rfl)<|.p (ln underlying22 rfl)<|.p (ar rfl)<|.guard fun h1=>?_
 refine TR.st 20 (.iptr [(.int .u32 (a1.getD ((IntKind.i64.wrap ((a1.length:Int)-1)).toNat) (kInt .u32).z))]) [] (snd_indexK (kInt .u32) _ _ _ _ _ _ (IntKind.i64.wrap ((a1.length:Int)-1)) rfl underlying22 si77 rfl rfl rfl rfl h1) rfl rfl rfl ?_
 refine .p (lsi sc77 rfl)<|.bind fun x272 h2=>.p (c0 (mb_LeadingZeros32_p h2) rfl)<|.p (sg rfl)<|.nil<|.seq<|.seq<|.region<|.p (mv rfl)<|.p (mv rfl)<|.bind fun x273 h3=>.p (c0 (nat_Shl_p h3) rfl)<|.p (mv rfl)<|.p (xt rfl)<|?_
 refine .p (xt rfl)<|.p (sg rfl)<|.nil<|.seq<|.seq<|.region<|.p (mv rfl)<|.p (ln underlying22 rfl)<|.p (sg rfl)<|.nil<|.seq<|.seq<|.region<|.p (mv rfl)<|?_
 refine .p (ln underlying22 rfl)<|.p (ar rfl)<|.guard fun h4=>?_
 refine TR.st 34 (.row 0 (kInt .u32).sz 0 (((List.replicate ((IntKind.i64.wrap ((a0.length:Int)+1)).toNat) (kInt .u32).z)).length)) [(0,(rwK (kInt .u32) 77 (List.replicate ((IntKind.i64.wrap ((a0.length:Int)+1)).toNat) (kInt .u32).z)))] (snd_makeK (kInt .u32) _ _ _ _ _ 0 _ _ _ rfl underlying22 ze77 sb77 (by decide) rfl rfl rfl rfl rfl h4) rfl rfl rfl ?_
 refine .p (sg rfl)<|.nil<|.seq<|.seq<|.region<|.p (mv rfl)<|.p (mv rfl)<|.bind fun x274 h5=>.p (c0 (nat_Shl_p h5) rfl)<|.p (mv rfl)<|.p (xt rfl)<|.p (xt rfl)<|.p (sg rfl)<|.p (sg rfl)<|?_
 refine .nil<|.seq<|.seq<|.region<|.p (mv rfl)<|.p (mv rfl)<|?_
 refine TR.st 43 (.int .i64 ((copyN (List.replicate ((IntKind.i64.wrap ((a0.length:Int)+1)).toNat) (kInt .u32).z) x274.1:Nat):Int)) [(0,(rwK (kInt .u32) 77 (copyL (List.replicate ((IntKind.i64.wrap ((a0.length:Int)+1)).toNat) (kInt .u32).z) x274.1)))] (snd_copyL (kInt .u32) _ _ _ _ _ 0 (List.replicate ((IntKind.i64.wrap ((a0.length:Int)+1)).toNat) (kInt .u32).z) x274.1 rfl underlying22 si77 rfl rfl rfl rfl rfl) rfl rfl rfl ?_
 refine TR.weak ?_ (fun a w h=>Conc.relen h 9 (((copyL (List.replicate ((IntKind.i64.wrap ((a0.length:Int)+1)).toNat) (kInt .u32).z) x274.1)).length) rfl (length_copyL _ _).symm)
 refine .nil<|.seq<|.seq<|.region<|.p (mv rfl)<|.p (ln underlying22 rfl)<|.p (mv rfl)<|.p (ar rfl)<|.p (ar rfl)<|.guard fun h6=>?_
 refine TR.st 49 (.row 1 (kInt .u32).sz 0 (((List.replicate ((IntKind.i64.wrap ((IntKind.i64.wrap ((a0.length:Int)-(x273.1.length:Int)))+1)).toNat) (kInt .u32).z)).length)) [(1,(rwK (kInt .u32) 77 (List.replicate ((IntKind.i64.wrap ((IntKind.i64.wrap ((a0.length:Int)-(x273.1.length:Int)))+1)).toNat) (kInt .u32).z)))] (snd_makeK (kInt .u32) _ _ _ _ _ 1 _ _ _ rfl underlying22 ze77 sb77 (by decide) rfl rfl rfl rfl rfl h6) rfl rfl rfl ?_
 refine .p (sg rfl)<|.nil<|.seq<|.seq<|.seq<|.region<|.p (mv rfl)<|.p (ln underlying22 rfl)<|.p (mv rfl)<|.p (ar rfl)<|.p (sg rfl)<|.nil<|.seq<|?_
 refine T.cut (X:=(List Int) × (List Int)) (fun x=>quo_long_j1 x273 x272 x.1 x.2) (fun x=>(mkS [(4,some (.row 1 (kInt .u32).sz 0 ((x.1).length))),(7,some (.int .i64 x272)),(8,some (.int .i64 (x273.1.length:Int))),(9,some (.row 0 (kInt .u32).sz 0 ((x.2).length)))] [(1,(rwK (kInt .u32) 77 x.1)),(0,(rwK (kInt .u32) 77 x.2))])) ?_ ?_
 ·rintro ⟨y407,y408⟩
  dsimp only [quo_long_j1]
  refine .seq<|.seq<|?_
  refine T.weak ?_ (fun a w h=>Conc.freezeK (kInt .u32) h 4 1 0 ((y407).length) 77 y407 rfl rfl (by omega))
  refine T.weak ?_ (fun a w h=>take_all h)
  refine T.weak ?_ (fun a w h=>Conc.freezeK (kInt .u32) h 9 0 0 ((y408).length) 77 y408 rfl rfl (by omega))
  refine T.weak ?_ (fun a w h=>take_all h)
  refine .draw mixed<|.p (mv rfl)<|.bind fun x409 h637=>.p (c0 (nat_Trim_p h637) rfl)<|.p (mv rfl)<|.p (mv rfl)<|.guard fun h638=>?_
  refine TD.st 157 (slK (kInt .u32) (y408.take x273.1.length)) [] (snd_sliceK (kInt .u32) _ _ _ _ _ _ 0 (x273.1.length:Int) rfl underlying22 si77 rfl rfl rfl rfl rfl h638) rfl rfl rfl ?_
  refine .p (mv rfl)<|.bind fun x410 h639=>.p (c0 (nat_Shr_p h639) rfl)<|.p (sg rfl)<|.p (sg rfl)<|.p (sg rfl)<|.nil (by kernel_rfl)<|.seq<|.ret<|fin_3 (.inr rfl) (.nil _) results190 (.t rfl) (.t rfl) (.t rfl) (AVle.refl _)
 ·intro h640
  refine .block<|.loopW (X:=Int × (List Int) × (List Int)) (fun n x=>quo_long_l2 x273 x272 n x.1 x.2.1 x.2.2) (fun x=>(mkS [(1,some (slK (kInt .u32) x273.1)),(4,some (.row 1 (kInt .u32).sz 0 ((x.2.1).length))),(7,some (.int .i64 x272)),(8,some (.int .i64 (x273.1.length:Int))),(9,some (.row 0 (kInt .u32).sz 0 ((x.2.2).length))),(12,some (.int .i64 x.1))] [(1,(rwK (kInt .u32) 77 x.2.1)),(0,(rwK (kInt .u32) 77 x.2.2))])) ((IntKind.i64.wrap ((a0.length:Int)-(x273.1.length:Int))),(List.replicate ((IntKind.i64.wrap ((IntKind.i64.wrap ((a0.length:Int)-(x273.1.length:Int)))+1)).toNat) (kInt .u32).z),(copyL (List.replicate ((IntKind.i64.wrap ((a0.length:Int)+1)).toNat) (kInt .u32).z) x274.1)) (jn (m:=0) [(1,1),(0,0)] hE (.l rfl<|.g rfl (.row _ _ _ _ _ rfl)<|.i rfl<|.i rfl<|.g rfl (.row _ _ _ _ _ rfl)<|.i rfl<|.nil) (.cons (.refl _) (renV_rw _ _)<|.cons (.refl _) (renV_rw _ _)<|.nil) rfl) (fun _=>rfl) rfl<|?_
  rintro n2 ⟨y498,y499,y500⟩
  try dsimp only
  rw [quo_long_l2]
  refine .seq<|.seq<|.region<|.p (mv rfl)<|.p (ar rfl)<|.nil<|.seq<|?_
  refine T.cond_p rfl iff_dec (fun h1061 h1062=>?_) (fun h1061 h1062=>?_)
  ·refine .skip<|.seq<|.seq<|?_
   refine T.cut (X:=(List Int) × (List Int)) (fun x=>quo_long_j3 (fun z0 z1 z2=>quo_long_l2 x273 x272 n2 z0 z1 z2) y498 x.1 x.2) (fun x=>(mkS [(1,some (slK (kInt .u32) x273.1)),(4,some (.row 1 (kInt .u32).sz 0 ((x.1).length))),(7,some (.int .i64 x272)),(8,some (.int .i64 (x273.1.length:Int))),(9,some (.row 0 (kInt .u32).sz 0 ((x.2).length))),(12,some (.int .i64 y498))] [(1,(rwK (kInt .u32) 77 x.1)),(0,(rwK (kInt .u32) 77 x.2))])) ?_ ?_
   ·rintro ⟨y521,y522⟩
    dsimp only [quo_long_j3]
    refine .seq<|.region<|.p (mv rfl)<|.p (ar rfl)<|.p (sg rfl)<|.nil<|.again ((IntKind.i64.wrap (y498-1)),y521,y522) (jn (m:=0) [(1,1),(0,0)] hE (.l rfl<|.g rfl (.row _ _ _ _ _ rfl)<|.i rfl<|.i rfl<|.g rfl (.row _ _ _ _ _ rfl)<|.i rfl<|.nil) (.cons (.refl _) (renV_rw _ _)<|.cons (.refl _) (renV_rw _ _)<|.nil) rfl) rfl
   ·intro h1167
    refine .block<|.scope<|.seq<|.draw mixed<|.p (mv rfl)<|.p (mv rfl)<|.p (mv rfl)<|.p (ar rfl)<|.guard fun h1168=>?_
    obtain ⟨h11681,h11682⟩:=h1168
    refine TD.st 62 (.rptr 0 (kInt .u32).sz ((IntKind.i64.wrap (y498+(x273.1.length:Int))).toNat) 0) [] (idx_r (snd_index_r _ _ _ _ _ 0 0 ((y500).length) _ (IntKind.i64.wrap (y498+(x273.1.length:Int))) rfl underlying22 si77 rfl rfl rfl rfl h11681 (by omega)) (Nat.zero_add _)) rfl rfl rfl ?_
    refine TD.st 63 (.int .u32 ((y500).getD ((IntKind.i64.wrap (y498+(x273.1.length:Int))).toNat) (kInt .u32).z)) [] (snd_loadK_sca (kInt .u32) _ _ 0 ((IntKind.i64.wrap (y498+(x273.1.length:Int))).toNat) 0 _ _ rfl sc77 rfl rfl rfl rfl (by first | omega | (simp only [List.length_set]; omega)) (by decide)) rfl rfl rfl ?_
    refine .p (cv underlying77 underlying117 rfl)<|?_
    refine TD.st 65 (.int .u64 (shlI .u64 (IntKind.u64.wrap ((y500).getD ((IntKind.i64.wrap (y498+(x273.1.length:Int))).toNat) (kInt .u32).z)) 32)) [] (snd_shl _ _ _ _ _ _ _ _ rfl rfl rfl rfl rfl (by decide)) rfl rfl rfl ?_
    refine .p (mv rfl)<|.p (mv rfl)<|.p (mv rfl)<|.p (ar rfl)<|.p (ar rfl)<|.guard fun h1169=>?_
    obtain ⟨h11691,h11692⟩:=h1169
    refine TD.st 71 (.rptr 0 (kInt .u32).sz ((IntKind.i64.wrap ((IntKind.i64.wrap (y498+(x273.1.length:Int)))-1)).toNat) 0) [] (idx_r (snd_index_r _ _ _ _ _ 0 0 ((y500).length) _ (IntKind.i64.wrap ((IntKind.i64.wrap (y498+(x273.1.length:Int)))-1)) rfl underlying22 si77 rfl rfl rfl rfl h11691 (by omega)) (Nat.zero_add _)) rfl rfl rfl ?_
    refine TD.st 72 (.int .u32 ((y500).getD ((IntKind.i64.wrap ((IntKind.i64.wrap (y498+(x273.1.length:Int)))-1)).toNat) (kInt .u32).z)) [] (snd_loadK_sca (kInt .u32) _ _ 0 ((IntKind.i64.wrap ((IntKind.i64.wrap (y498+(x273.1.length:Int)))-1)).toNat) 0 _ _ rfl sc77 rfl rfl rfl rfl (by first | omega | (simp only [List.length_set]; omega)) (by decide)) rfl rfl rfl ?_
    refine .p (cv underlying77 underlying117 rfl)<|.p (ar rfl)<|.p (sg rfl)<|.nil (by kernel_rfl)<|.seq<|.seq<|.draw mixed<|.p (mv rfl)<|.p (mv rfl)<|.p (mv rfl)<|.p (ar rfl)<|.guard fun h1170=>?_
    refine TD.st 79 (.iptr [(.int .u32 (x273.1.getD ((IntKind.i64.wrap ((x273.1.length:Int)-1)).toNat) (kInt .u32).z))]) [] (snd_indexK (kInt .u32) _ _ _ _ _ _ (IntKind.i64.wrap ((x273.1.length:Int)-1)) rfl underlying22 si77 rfl rfl rfl rfl h1170) rfl rfl rfl ?_
    refine .p (lsi sc77 rfl)<|.p (cv underlying77 underlying117 rfl)<|.guard fun h1171=>?_
    refine TD.st 82 (.int .u64 (IntKind.u64.wrap ((orI .u64 (shlI .u64 (IntKind.u64.wrap ((y500).getD ((IntKind.i64.wrap (y498+(x273.1.length:Int))).toNat) (kInt .u32).z)) 32) (IntKind.u64.wrap ((y500).getD ((IntKind.i64.wrap ((IntKind.i64.wrap (y498+(x273.1.length:Int)))-1)).toNat) (kInt .u32).z))).tdiv (IntKind.u64.wrap (x273.1.getD ((IntKind.i64.wrap ((x273.1.length:Int)-1)).toNat) (kInt .u32).z))))) [] (snd_quo _ _ _ _ _ _ _ rfl rfl rfl rfl rfl h1171) rfl rfl rfl ?_
    refine .p (mv rfl)<|.p (mv rfl)<|.p (mv rfl)<|.p (ar rfl)<|.guard fun h1172=>?_
    refine TD.st 87 (.iptr [(.int .u32 (x273.1.getD ((IntKind.i64.wrap ((x273.1.length:Int)-1)).toNat) (kInt .u32).z))]) [] (snd_indexK (kInt .u32) _ _ _ _ _ _ (IntKind.i64.wrap ((x273.1.length:Int)-1)) rfl underlying22 si77 rfl rfl rfl rfl h1172) rfl rfl rfl ?_
    refine .p (lsi sc77 rfl)<|.p (cv underlying77 underlying117 rfl)<|.guard fun h1173=>?_
    refine TD.st 90 (.int .u64 ((orI .u64 (shlI .u64 (IntKind.u64.wrap ((y500).getD ((IntKind.i64.wrap (y498+(x273.1.length:Int))).toNat) (kInt .u32).z)) 32) (IntKind.u64.wrap ((y500).getD ((IntKind.i64.wrap ((IntKind.i64.wrap (y498+(x273.1.length:Int)))-1)).toNat) (kInt .u32).z))).tmod (IntKind.u64.wrap (x273.1.getD ((IntKind.i64.wrap ((x273.1.length:Int)-1)).toNat) (kInt .u32).z)))) [] (snd_rem _ _ _ _ _ _ _ rfl rfl rfl rfl rfl h1173) rfl rfl rfl ?_
    refine .p (sg rfl)<|.p (sg rfl)<|.nil (by kernel_rfl)<|.seq<|.seq<|.label<|.seq<|.seq<|?_
    refine T.cut (X:=Int) (fun x=>quo_long_j4 y498 x273 y500 y499 (fun z0 z1 z2=>quo_long_l2 x273 x272 n2 z0 z1 z2) x) (fun x=>(mkS [(1,some (slK (kInt .u32) x273.1)),(4,some (.row 1 (kInt .u32).sz 0 ((y499).length))),(7,some (.int .i64 x272)),(8,some (.int .i64 (x273.1.length:Int))),(9,some (.row 0 (kInt .u32).sz 0 ((y500).length))),(12,some (.int .i64 y498)),(14,some (.int .u64 x))] [(1,(rwK (kInt .u32) 77 y499)),(0,(rwK (kInt .u32) 77 y500))])) ?_ ?_
    ·rintro y530
     dsimp only [quo_long_j4]
     refine .seq<|.seq<|.seq<|.region<|.p (mv rfl)<|.p (mv rfl)<|.p (mv rfl)<|.p (mv rfl)<|.p (ar rfl)<|.p (ar rfl)<|.guard fun h1216=>?_
     refine TR.st 133 (.row 0 (kInt .u32).sz (0+y498.toNat) ((IntKind.i64.wrap ((IntKind.i64.wrap (y498+(x273.1.length:Int)))+1)).toNat-y498.toNat)) [] (snd_slice_r _ _ _ _ _ _ 0 0 ((y500).length) y498 (IntKind.i64.wrap ((IntKind.i64.wrap (y498+(x273.1.length:Int)))+1)) rfl underlying22 si77 rfl rfl rfl rfl rfl h1216.1 h1216.2.1 h1216.2.2) rfl rfl rfl ?_
     refine .p (mv rfl)<|.p (mv rfl)<|.bind fun x531 h1217=>.w (cl (quo_take_k h1217) [0] [] [true] rfl (.cons (.row _ _ _ _ _ rfl)<|.l<|.i<|.nil) (.cons trivial (renV_rw _ _) .nil) fnil (.cons (renV_rw _ _) .nil) (.bool _) (.turned .nil) rfl)<|.guard fun h1218=>?_
     refine TR.weak ?_ (fun a w h=>Conc.relen h 9 ((x531.2).length) rfl h1218.symm)
     refine .nil<|.seq<|?_
     refine T.cut (X:=Int × (List Int)) (fun x=>quo_long_j5 y498 y499 (fun z0 z1 z2=>quo_long_l2 x273 x272 n2 z0 z1 z2) x.1 x.2) (fun x=>(mkS [(1,some (slK (kInt .u32) x273.1)),(4,some (.row 1 (kInt .u32).sz 0 ((y499).length))),(7,some (.int .i64 x272)),(8,some (.int .i64 (x273.1.length:Int))),(9,some (.row 0 (kInt .u32).sz 0 ((x.2).length))),(12,some (.int .i64 y498)),(14,some (.int .u64 x.1))] [(1,(rwK (kInt .u32) 77 y499)),(0,(rwK (kInt .u32) 77 x.2))])) ?_ ?_
     ·rintro ⟨y533,y534⟩
      dsimp only [quo_long_j5]
      refine .seq<|.region<|.p (mv rfl)<|.p (mv rfl)<|.p (mv rfl)<|.p (cv underlying117 underlying77 rfl)<|.guard fun h1224=>?_
      obtain ⟨h12241,h12242⟩:=h1224
      refine TR.st 152 (.rptr 1 (kInt .u32).sz y498.toNat 0) [] (idx_r (snd_index_r _ _ _ _ _ 1 0 ((y499).length) _ y498 rfl underlying22 si77 rfl rfl rfl rfl h12241 (by omega)) (Nat.zero_add _)) rfl rfl rfl ?_
      refine TR.sn [(1,(rwK (kInt .u32) 77 ((y499).set y498.toNat (IntKind.u32.wrap y533))))] (snd_storeK_sca (kInt .u32) _ _ _ 1 y498.toNat _ _ (IntKind.u32.wrap y533) _ rfl rfl rfl sc77 rfl rfl rfl rfl rfl rfl (by first | omega | (simp only [List.length_set]; omega))) rfl rfl ?_
      refine TR.weak ?_ (fun a w h=>Conc.relen h 4 ((((y499).set y498.toNat (IntKind.u32.wrap y533))).length) rfl List.length_set.symm)
      refine .nil<|.scope<|.block<|.weak (h1167 (((y499).set y498.toNat (IntKind.u32.wrap y533)),y534)) (jn (m:=0) [(1,1),(0,0)] hE (.l rfl<|.g rfl (.row _ _ _ _ _ rfl)<|.i rfl<|.i rfl<|.g rfl (.row _ _ _ _ _ rfl)<|.i rfl<|.nil) (.cons (.refl _) (renV_rw _ _)<|.cons (.refl _) (renV_rw _ _)<|.nil) rfl)
     ·intro h1225
      refine T.cond_p rfl iff_b (fun h1226 h1227=>?_) (fun h1226 h1227=>?_)
      ·refine .seq<|.region<|.p (mv rfl)<|.p (ar rfl)<|.p (sg rfl)<|.nil<|.seq<|.region<|.p (mv rfl)<|.p (mv rfl)<|.p (mv rfl)<|.p (mv rfl)<|.p (ar rfl)<|.p (ar rfl)<|?_
       refine .guard fun h1228=>?_
       refine TR.st 145 (.row 0 (kInt .u32).sz (0+y498.toNat) ((IntKind.i64.wrap ((IntKind.i64.wrap (y498+(x273.1.length:Int)))+1)).toNat-y498.toNat)) [] (snd_slice_r _ _ _ _ _ _ 0 0 ((x531.2).length) y498 (IntKind.i64.wrap ((IntKind.i64.wrap (y498+(x273.1.length:Int)))+1)) rfl underlying22 si77 rfl rfl rfl rfl rfl h1228.1 h1228.2.1 h1228.2.2) rfl rfl rfl ?_
       refine .p (mv rfl)<|.bind fun x535 h1229=>.w (cl (quo_give_k h1229) [0] [] [true] rfl (.cons (.row _ _ _ _ _ rfl)<|.l<|.nil) (.cons trivial (renV_rw _ _) .nil) fnil (.cons (renV_rw _ _) .nil) (ren_tupL .nil) (.turned .nil) rfl)<|.guard fun h1230=>?_
       refine TR.weak ?_ (fun a w h=>Conc.relen h 9 ((x535).length) rfl h1230.symm)
       refine .nil<|.weak (h1225 ((IntKind.u64.wrap (y530-1)),x535)) (jn (m:=0) [(1,1),(0,0)] hE (.l rfl<|.g rfl (.row _ _ _ _ _ rfl)<|.i rfl<|.i rfl<|.g rfl (.row _ _ _ _ _ rfl)<|.i rfl<|.i rfl<|.nil) (.cons (.refl _) (renV_rw _ _)<|.cons (.refl _) (renV_rw _ _)<|.nil) rfl)
      ·refine .skip<|.weak (h1225 (y530,x531.2)) (jn (m:=0) [(1,1),(0,0)] hE (.l rfl<|.g rfl (.row _ _ _ _ _ rfl)<|.i rfl<|.i rfl<|.g rfl (.row _ _ _ _ _ rfl)<|.i rfl<|.i rfl<|.nil) (.cons (.refl _) (renV_rw _ _)<|.cons (.refl _) (renV_rw _ _)<|.nil) rfl)
    ·intro h1231
     refine .block<|.loopW (X:=Int × Int) (fun n x=>quo_long_l6 x273 y498 y500 y499 (fun z0 z1 z2=>quo_long_l2 x273 x272 n2 z0 z1 z2) n x.1 x.2) (fun x=>(mkS [(1,some (slK (kInt .u32) x273.1)),(4,some (.row 1 (kInt .u32).sz 0 ((y499).length))),(7,some (.int .i64 x272)),(8,some (.int .i64 (x273.1.length:Int))),(9,some (.row 0 (kInt .u32).sz 0 ((y500).length))),(12,some (.int .i64 y498)),(14,some (.int .u64 x.1)),(15,some (.int .u64 x.2))] [(1,(rwK (kInt .u32) 77 y499)),(0,(rwK (kInt .u32) 77 y500))])) ((IntKind.u64.wrap ((orI .u64 (shlI .u64 (IntKind.u64.wrap ((y500).getD ((IntKind.i64.wrap (y498+(x273.1.length:Int))).toNat) (kInt .u32).z)) 32) (IntKind.u64.wrap ((y500).getD ((IntKind.i64.wrap ((IntKind.i64.wrap (y498+(x273.1.length:Int)))-1)).toNat) (kInt .u32).z))).tdiv (IntKind.u64.wrap (x273.1.getD ((IntKind.i64.wrap ((x273.1.length:Int)-1)).toNat) (kInt .u32).z)))),((orI .u64 (shlI .u64 (IntKind.u64.wrap ((y500).getD ((IntKind.i64.wrap (y498+(x273.1.length:Int))).toNat) (kInt .u32).z)) 32) (IntKind.u64.wrap ((y500).getD ((IntKind.i64.wrap ((IntKind.i64.wrap (y498+(x273.1.length:Int)))-1)).toNat) (kInt .u32).z))).tmod (IntKind.u64.wrap (x273.1.getD ((IntKind.i64.wrap ((x273.1.length:Int)-1)).toNat) (kInt .u32).z)))) (jn (m:=0) [(1,1),(0,0)] hE (.l rfl<|.g rfl (.row _ _ _ _ _ rfl)<|.i rfl<|.i rfl<|.g rfl (.row _ _ _ _ _ rfl)<|.i rfl<|.i rfl<|.i rfl<|.nil) (.cons (.refl _) (renV_rw _ _)<|.cons (.refl _) (renV_rw _ _)<|.nil) rfl) (fun _=>rfl) rfl<|?_
     rintro n6 ⟨y540,y541⟩
     try dsimp only
     rw [quo_long_l6]
     refine .seq<|.seq<|?_
     refine T.cut (X:=Bool) (fun x=>quo_long_j7 x273 y541 y498 y500 y499 (fun z0 z1 z2=>quo_long_l2 x273 x272 n2 z0 z1 z2) y540 (fun z0 z1=>quo_long_l6 x273 y498 y500 y499 (fun z0 z1 z2=>quo_long_l2 x273 x272 n2 z0 z1 z2) n6 z0 z1) x) (fun x=>(mkS [(1,some (slK (kInt .u32) x273.1)),(4,some (.row 1 (kInt .u32).sz 0 ((y499).length))),(7,some (.int .i64 x272)),(8,some (.int .i64 (x273.1.length:Int))),(9,some (.row 0 (kInt .u32).sz 0 ((y500).length))),(12,some (.int .i64 y498)),(14,some (.int .u64 y540)),(15,some (.int .u64 y541)),(114,some (.bool x))] [(1,(rwK (kInt .u32) 77 y499)),(0,(rwK (kInt .u32) 77 y500))])) ?_ ?_
     ·rintro y542
      dsimp only [quo_long_j7]
      refine .seq<|?_
      refine T.cond_p rfl iff_b (fun h1263 h1264=>?_) (fun h1263 h1264=>?_)
      ·refine .skip<|.seq<|.block<|.seq<|.region<|.p (mv rfl)<|.p (ar rfl)<|.p (sg rfl)<|.nil<|.seq<|.seq<|.region<|.p (mv rfl)<|.p (mv rfl)<|?_
       refine .p (mv rfl)<|.p (ar rfl)<|.guard fun h1268=>?_
       refine TR.st 121 (.iptr [(.int .u32 (x273.1.getD ((IntKind.i64.wrap ((x273.1.length:Int)-1)).toNat) (kInt .u32).z))]) [] (snd_indexK (kInt .u32) _ _ _ _ _ _ (IntKind.i64.wrap ((x273.1.length:Int)-1)) rfl underlying22 si77 rfl rfl rfl rfl h1268) rfl rfl rfl ?_
       refine .p (lsi sc77 rfl)<|.p (cv underlying77 underlying117 rfl)<|.p (ar rfl)<|.p (sg rfl)<|.nil<|.seq<|.seq<|.region<|.p (mv rfl)<|.p (ar rfl)<|.nil<|.seq<|?_
       refine T.cond_p rfl iff_dec (fun h1269 h1270=>?_) (fun h1269 h1270=>?_)
       ·refine .exit<|.block_pass (by decide)<|.loop_exit<|.block_exit<|.weak (h1231 (IntKind.u64.wrap (y540-1))) (jn (m:=0) [(1,1),(0,0)] hE (.l rfl<|.g rfl (.row _ _ _ _ _ rfl)<|.i rfl<|.i rfl<|.g rfl (.row _ _ _ _ _ rfl)<|.i rfl<|.i rfl<|.nil) (.cons (.refl _) (renV_rw _ _)<|.cons (.refl _) (renV_rw _ _)<|.nil) rfl)
       ·refine .skip<|.block<|.again ((IntKind.u64.wrap (y540-1)),(IntKind.u64.wrap (y541+(IntKind.u64.wrap (x273.1.getD ((IntKind.i64.wrap ((x273.1.length:Int)-1)).toNat) (kInt .u32).z))))) (jn (m:=0) [(1,1),(0,0)] hE (.l rfl<|.g rfl (.row _ _ _ _ _ rfl)<|.i rfl<|.i rfl<|.g rfl (.row _ _ _ _ _ rfl)<|.i rfl<|.i rfl<|.i rfl<|.nil) (.cons (.refl _) (renV_rw _ _)<|.cons (.refl _) (renV_rw _ _)<|.nil) rfl) rfl
      ·refine .exit<|.seq_exit<|.loop_exit<|.block_exit<|.weak (h1231 y540) (jn (m:=0) [(1,1),(0,0)] hE (.l rfl<|.g rfl (.row _ _ _ _ _ rfl)<|.i rfl<|.i rfl<|.g rfl (.row _ _ _ _ _ rfl)<|.i rfl<|.i rfl<|.nil) (.cons (.refl _) (renV_rw _ _)<|.cons (.refl _) (renV_rw _ _)<|.nil) rfl)
     ·intro h1271
      refine .draw mixed<|.p (mv rfl)<|.p (ar rfl)<|.p (mv rfl)<|?_
      refine TD.gd 93 _ rfl iff_dec (fun h1272=>?_) (fun h1272=>?_)
      ·refine .k rfl<|.k rfl<|.k rfl<|.k rfl<|.k rfl<|.k rfl<|.k rfl<|.k rfl<|.k rfl<|.k rfl<|.k rfl<|.k rfl<|.k rfl<|.k rfl<|?_
       refine .k rfl<|.k rfl<|.k rfl<|.k rfl<|.k rfl<|.k rfl<|.p (pt rfl)<|.nil (by kernel_rfl)<|.weak (h1271 true) (jn (m:=0) [(1,1),(0,0)] hE (.l rfl<|.g rfl (.row _ _ _ _ _ rfl)<|.i rfl<|.i rfl<|.g rfl (.row _ _ _ _ _ rfl)<|.i rfl<|.i rfl<|.i rfl<|.b rfl<|.nil) (.cons (.refl _) (renV_rw _ _)<|.cons (.refl _) (renV_rw _ _)<|.nil) rfl)
      ·refine .p (mv rfl)<|.p (mv rfl)<|.p (mv rfl)<|.p (ar rfl)<|.guard fun h1273=>?_
       refine TD.st 98 (.iptr [(.int .u32 (x273.1.getD ((IntKind.i64.wrap ((x273.1.length:Int)-2)).toNat) (kInt .u32).z))]) [] (snd_indexK (kInt .u32) _ _ _ _ _ _ (IntKind.i64.wrap ((x273.1.length:Int)-2)) rfl underlying22 si77 rfl rfl rfl rfl h1273) rfl rfl rfl ?_
       refine .p (lsi sc77 rfl)<|.p (cv underlying77 underlying117 rfl)<|.p (ar rfl)<|.p (mv rfl)<|?_
       refine TD.st 103 (.int .u64 (shlI .u64 y541 32)) [] (snd_shl _ _ _ _ _ _ _ _ rfl rfl rfl rfl rfl (by decide)) rfl rfl rfl ?_
       refine .p (mv rfl)<|.p (mv rfl)<|.p (mv rfl)<|.p (ar rfl)<|.p (ar rfl)<|.guard fun h1274=>?_
       obtain ⟨h12741,h12742⟩:=h1274
       refine TD.st 109 (.rptr 0 (kInt .u32).sz ((IntKind.i64.wrap ((IntKind.i64.wrap (y498+(x273.1.length:Int)))-2)).toNat) 0) [] (idx_r (snd_index_r _ _ _ _ _ 0 0 ((y500).length) _ (IntKind.i64.wrap ((IntKind.i64.wrap (y498+(x273.1.length:Int)))-2)) rfl underlying22 si77 rfl rfl rfl rfl h12741 (by omega)) (Nat.zero_add _)) rfl rfl rfl ?_
       refine TD.st 110 (.int .u32 ((y500).getD ((IntKind.i64.wrap ((IntKind.i64.wrap (y498+(x273.1.length:Int)))-2)).toNat) (kInt .u32).z)) [] (snd_loadK_sca (kInt .u32) _ _ 0 ((IntKind.i64.wrap ((IntKind.i64.wrap (y498+(x273.1.length:Int)))-2)).toNat) 0 _ _ rfl sc77 rfl rfl rfl rfl (by first | omega | (simp only [List.length_set]; omega)) (by decide)) rfl rfl rfl ?_
       refine .p (cv underlying77 underlying117 rfl)<|.p (ar rfl)<|.p (ar rfl)<|.p (pf rfl)<|.nil (by kernel_rfl)<|.weak (h1271 (decide ((IntKind.u64.wrap (y540*(IntKind.u64.wrap (x273.1.getD ((IntKind.i64.wrap ((x273.1.length:Int)-2)).toNat) (kInt .u32).z))))>(orI .u64 (shlI .u64 y541 32) (IntKind.u64.wrap ((y500).getD ((IntKind.i64.wrap ((IntKind.i64.wrap (y498+(x273.1.length:Int)))-2)).toNat) (kInt .u32).z)))))) (jn (m:=0) [(1,1),(0,0)] hE (.l rfl<|.g rfl (.row _ _ _ _ _ rfl)<|.i rfl<|.i rfl<|.g rfl (.row _ _ _ _ _ rfl)<|.i rfl<|.i rfl<|.i rfl<|.b rfl<|.nil) (.cons (.refl _) (renV_rw _ _)<|.cons (.refl _) (renV_rw _ _)<|.nil) rfl)
  ·refine .exit<|.seq_exit<|.loop_exit<|.block_exit<|.weak (h640 (y499,y500)) (jn (m:=0) [(1,1),(0,0)] hE (.g rfl (.row _ _ _ _ _ rfl)<|.i rfl<|.i rfl<|.g rfl (.row _ _ _ _ _ rfl)<|.nil) (.cons (.refl _) (renV_rw _ _)<|.cons (.refl _) (renV_rw _ _)<|.nil) rfl)
theorem quo_long_p {a0:List Int} {a1:List Int} {r:(List Int) × (List Int) × Bool} (h:quo_long a0 a1=some r):Pur Tryz.prog 190 [(slK (kInt .u32) a0),(slK (kInt .u32) a1)] (.tup [(slK (kInt .u32) r.1),(slK (kInt .u32) r.2.1),(.bool r.2.2)]):=⟨⟨_,func190,nm190,rfl⟩,quo_long_c a0 a1 _ h,fun _=>(.l<|.l<|.nil),fun _=>(ren_tupL (.l<|.l<|.b<|.nil))⟩
theorem quo_DivMod_c (a0:List Int) (a1:List Int):∀ r,quo_DivMod a0 a1=some r→ACalls Tryz.prog 150 [(slK (kInt .u32) a0),(slK (kInt .u32) a1)] (lw []) (.tup [(slK (kInt .u32) r.1),(slK (kInt .u32) r.2.1),(.bool r.2.2)]) (ld []):=by
 unfold quo_DivMod
 refine go 0 func150 ntmps150 rfl ?_
 intro E hE
 refine .seq<|.region<|?_
 refine TR.st 4 (slK (kInt .u32) []) [] (Snd.le (snd_assign _ _ rfl rfl rfl rfl) AVle.nil) rfl rfl rfl ?_
 refine TR.st 5 (slK (kInt .u32) []) [] (Snd.le (snd_assign _ _ rfl rfl rfl rfl) AVle.nil) rfl rfl rfl ?_
 refine .p (sg rfl)<|.nil<|.seq<|.seq<|.region<|.p (mv rfl)<|.bind fun x8 h1=>.p (c0 (nat_Trim_p h1) rfl)<|.p (sg rfl)<|.nil<|.seq<|.seq<|.region<|.p (mv rfl)<|?_
 refine .bind fun x9 h2=>.p (c0 (nat_Trim_p h2) rfl)<|.p (sg rfl)<|.nil<|.seq<|.seq<|.block<|.seq<|.region<|.p (mv rfl)<|.p (ln underlying22 rfl)<|.p (ar rfl)<|.p (sg rfl)<|.nil<|?_
 refine .seq<|?_
 refine T.cond_p rfl iff_eq (fun h12 h13=>?_) (fun h12 h13=>?_)
 ·refine .seq<|.region<|?_
  refine TR.st 4 (slK (kInt .u32) []) [] (Snd.le (snd_assign _ _ rfl rfl rfl rfl) AVle.nil) rfl rfl rfl ?_
  refine TR.st 5 (slK (kInt .u32) []) [] (Snd.le (snd_assign _ _ rfl rfl rfl rfl) AVle.nil) rfl rfl rfl ?_
  refine .p (sg rfl)<|.nil<|.seq<|.ret<|.block_ret<|.seq_ret<|fin_3 (.inr rfl) (.nil _) results150 (.t rfl) (.t rfl) (.t rfl) (AVle.refl _)
 ·refine .seq<|.region<|.p (mv rfl)<|.p (mv rfl)<|.bind fun x12 h14=>.p (c0 (nat_Cmp_p h14) rfl)<|.p (ar rfl)<|.p (sg rfl)<|.nil<|.seq<|?_
  refine T.cond_p rfl iff_dec (fun h15 h16=>?_) (fun h15 h16=>?_)
  ·refine .seq<|.region<|.p (mv rfl)<|?_
   refine TR.st 4 (slK (kInt .u32) []) [] (Snd.le (snd_assign _ _ rfl rfl rfl rfl) AVle.nil) rfl rfl rfl ?_
   refine .p (sg rfl)<|.p (sg rfl)<|.nil<|.seq<|.ret<|.block_ret<|.seq_ret<|fin_3 (.inr rfl) (.nil _) results150 (.t rfl) (.t rfl) (.t rfl) (AVle.refl _)
  ·refine .seq<|.region<|.p (mv rfl)<|.p (ln underlying22 rfl)<|.p (ar rfl)<|.p (sg rfl)<|.nil<|.seq<|?_
   refine T.cond_p rfl iff_eq (fun h17 h18=>?_) (fun h17 h18=>?_)
   ·refine .seq<|.region<|.p (mv rfl)<|.p (mv rfl)<|.guard fun h19=>?_
    refine TR.st 27 (.iptr [(.int .u32 (x8.getD 0 (kInt .u32).z))]) [] (snd_indexK (kInt .u32) _ _ _ _ _ _ 0 rfl underlying22 si77 rfl rfl rfl rfl h19) rfl rfl rfl ?_
    refine .p (lsi sc77 rfl)<|.bind fun x13 h20=>.p (c0 (quo_short_p h20) rfl)<|.p (xt rfl)<|.p (xt rfl)<|.p (xt rfl)<|.p (sg rfl)<|.p (sg rfl)<|.p (sg rfl)<|.nil<|.seq<|.ret<|.block_ret<|.seq_ret<|fin_3 (.inr rfl) (.nil _) results150 (.t rfl) (.t rfl) (.t rfl) (AVle.refl _)
   ·refine .skip<|.block<|.seq<|.seq<|.region<|.p (mv rfl)<|.p (mv rfl)<|.bind fun x14 h21=>.p (c0 (quo_long_p h21) rfl)<|.p (xt rfl)<|.p (xt rfl)<|.p (xt rfl)<|.p (sg rfl)<|.p (sg rfl)<|?_
    refine .p (sg rfl)<|.nil<|.seq<|.ret<|fin_3 (.inr rfl) (.nil _) results150 (.t rfl) (.t rfl) (.t rfl) (AVle.refl _)
theorem quo_DivMod_p {a0:List Int} {a1:List Int} {r:(List Int) × (List Int) × Bool} (h:quo_DivMod a0 a1=some r):Pur Tryz.prog 150 [(slK (kInt .u32) a0),(slK (kInt .u32) a1)] (.tup [(slK (kInt .u32) r.1),(slK (kInt .u32) r.2.1),(.bool r.2.2)]):=⟨⟨_,func150,nm150,rfl⟩,quo_DivMod_c a0 a1 _ h,fun _=>(.l<|.l<|.nil),fun _=>(ren_tupL (.l<|.l<|.b<|.nil))⟩
theorem dw_cut_c (a0:Bool) (a1:List Int) (a2:Int) (a3:Bool) (a4:Int) (a5:Bool) (a6:Int) (a7:Bool) (a8:List Int) (a9:Int):∀ r,dw_cut a0 a1 a2 a3 a4 a5 a6 a7 a8 a9=some r→ACalls Tryz.prog 148 [(.ptr 0 0),(.bool a0),(slK (kInt .u32) a1),(.int .i64 a2),(.bool a3),(.int .i64 a4),(.bool a5)] (lw [(.live 85 [(.int .i64 a6),(.bool a7),(slK (kInt .u32) a8),(.int .i64 a9)])]) (.tup []) (ld [(.live 85 [(.int .i64 a6),(.bool r.1),(slK (kInt .u32) r.2.1),(.int .i64 r.2.2)])]):=by
 unfold dw_cut
 refine go 1 func148 ntmps148 rfl ?_
 intro E hE
 refine .seq<|.seq<|.region<|.p (mv rfl)<|.bind fun x68 h1=>.p (c0 (nat_Bits_p h1) rfl)<|.p (mv rfl)<|.p (ar rfl)<|.p (sg rfl)<|.nil<|.seq<|.seq<|.region<|.p (mv rfl)<|?_
 refine .p (ar rfl)<|.nil<|.seq<|?_
 refine T.cut (X:=(List Int) × Int × Bool) (fun x=>dw_cut_j1 a0 a5 x.1 x.2.1 x.2.2) (fun x=>(mkS [(0,some (.ptr 0 0)),(1,some (.bool a0)),(2,some (slK (kInt .u32) x.1)),(3,some (.int .i64 x.2.1)),(4,some (.bool x.2.2)),(6,some (.bool a5))] [(0,(.live 85 [(.int .i64 a6),(.bool a7),(slK (kInt .u32) a8),(.int .i64 a9)]))])) ?_ ?_
 ·rintro ⟨y97,y98,y99⟩
  dsimp only [dw_cut_j1]
  refine .seq<|.seq<|.seq<|?_
  refine T.cut (X:=Bool) (fun x=>dw_cut_j2 y97 a0 y98 x) (fun x=>(mkS [(0,some (.ptr 0 0)),(1,some (.bool a0)),(2,some (slK (kInt .u32) y97)),(3,some (.int .i64 y98)),(43,some (.bool x))] [(0,(.live 85 [(.int .i64 a6),(.bool a7),(slK (kInt .u32) a8),(.int .i64 a9)]))])) ?_ ?_
  ·rintro y100
   dsimp only [dw_cut_j2]
   refine .seq<|?_
   refine T.cut (X:=(List Int)) (fun x=>dw_cut_j3 a0 y98 x) (fun x=>(mkS [(0,some (.ptr 0 0)),(1,some (.bool a0)),(2,some (slK (kInt .u32) x)),(3,some (.int .i64 y98))] [(0,(.live 85 [(.int .i64 a6),(.bool a7),(slK (kInt .u32) a8),(.int .i64 a9)]))])) ?_ ?_
   ·rintro y103
    dsimp only [dw_cut_j3]
    refine .seq<|.region<|.p (mv rfl)<|.p (mv rfl)<|.p (mv rfl)<|.p (mv rfl)<|.bind fun x104 h46=>.p (c0 (dyad_norm_p h46) rfl)<|.p (nc rfl)<|.p (fa 1 fl85_1 rfl)<|.n (sa ag26 rfl)<|.nil<|fin_0 (.inl rfl) (.k rfl (.nil _)) results148  (AVle.refl _)
   ·intro h47
    refine T.cond_p rfl iff_b (fun h48 h49=>?_) (fun h48 h49=>?_)
    ·refine .region<|.p (mv rfl)<|.bind fun x105 h50=>.p (c0 (nat_From_p h50) rfl)<|.bind fun x106 h51=>.p (c0 (nat_Add_p h51) rfl)<|.p (sg rfl)<|.nil<|.weak (h47 x106) (jn (m:=1) [(0,0)] hE (.p rfl rfl<|.b rfl<|.l rfl<|.i rfl<|.nil) (.v rfl (.i<|.b<|.l<|.i<|.nil)<|.nil) rfl)
    ·refine .skip<|.weak (h47 y97) (jn (m:=1) [(0,0)] hE (.p rfl rfl<|.b rfl<|.l rfl<|.i rfl<|.nil) (.v rfl (.i<|.b<|.l<|.i<|.nil)<|.nil) rfl)
  ·intro h52
   refine .region<|.p (mv rfl)<|.p (mv rfl)<|?_
   refine TR.gd 41 _ rfl iff_b (fun h53=>?_) (fun h53=>?_)
   ·refine .p (mv rfl)<|.p (pt rfl)<|.nil<|.weak (h52 a5) (jn (m:=1) [(0,0)] hE (.p rfl rfl<|.b rfl<|.l rfl<|.i rfl<|.b rfl<|.nil) (.v rfl (.i<|.b<|.l<|.i<|.nil)<|.nil) rfl)
   ·refine .k rfl<|.p (pf rfl)<|.nil<|.weak (h52 false) (jn (m:=1) [(0,0)] hE (.p rfl rfl<|.b rfl<|.l rfl<|.i rfl<|.b rfl<|.nil) (.v rfl (.i<|.b<|.l<|.i<|.nil)<|.nil) rfl)
 ·intro h54
  refine T.cond_p rfl iff_dec (fun h55 h56=>?_) (fun h55 h56=>?_)
  ·refine .seq<|.seq<|.region<|.p (sg rfl)<|.nil<|.seq<|?_
   refine T.cut (X:=Bool) (fun x=>dw_cut_j4 a1 x68 a4 a0 a5 a2 x) (fun x=>(mkS [(0,some (.ptr 0 0)),(1,some (.bool a0)),(2,some (slK (kInt .u32) a1)),(3,some (.int .i64 a2)),(4,some (.bool x)),(6,some (.bool a5)),(14,some (.int .i64 (IntKind.i64.wrap (x68-a4))))] [(0,(.live 85 [(.int .i64 a6),(.bool a7),(slK (kInt .u32) a8),(.int .i64 a9)]))])) ?_ ?_
   ·rintro y120
    dsimp only [dw_cut_j4]
    refine .seq<|.region<|.p (mv rfl)<|.p (mv rfl)<|.bind fun x121 h75=>.p (c0 (nat_Shr_p h75) rfl)<|.p (mv rfl)<|.p (mv rfl)<|.p (ar rfl)<|.p (sg rfl)<|.p (sg rfl)<|.nil<|.weak (h54 (x121,(IntKind.i64.wrap (a2+(IntKind.i64.wrap (x68-a4)))),y120)) (jn (m:=1) [(0,0)] hE (.p rfl rfl<|.b rfl<|.l rfl<|.i rfl<|.b rfl<|.b rfl<|.nil) (.v rfl (.i<|.b<|.l<|.i<|.nil)<|.nil) rfl)
   ·intro h76
    refine .block<|.loopW (X:=Bool × Int) (fun n x=>dw_cut_l5 x68 a4 a1 a0 a5 a2 n x.1 x.2) (fun x=>(mkS [(0,some (.ptr 0 0)),(1,some (.bool a0)),(2,some (slK (kInt .u32) a1)),(3,some (.int .i64 a2)),(4,some (.bool x.1)),(6,some (.bool a5)),(14,some (.int .i64 (IntKind.i64.wrap (x68-a4)))),(15,some (.int .i64 x.2))] [(0,(.live 85 [(.int .i64 a6),(.bool a7),(slK (kInt .u32) a8),(.int .i64 a9)]))])) (a3,0) (jn (m:=1) [(0,0)] hE (.p rfl rfl<|.b rfl<|.l rfl<|.i rfl<|.b rfl<|.b rfl<|.i rfl<|.i rfl<|.nil) (.v rfl (.i<|.b<|.l<|.i<|.nil)<|.nil) rfl) (fun _=>rfl) rfl<|?_
    rintro n5 ⟨y130,y131⟩
    try dsimp only
    rw [dw_cut_l5]
    refine .seq<|.seq<|?_
    refine T.cut (X:=Bool) (fun x=>dw_cut_j6 a1 y131 (fun z0 z1=>dw_cut_l5 x68 a4 a1 a0 a5 a2 n5 z0 z1) x68 a4 a0 a5 a2 y130 x) (fun x=>(mkS [(0,some (.ptr 0 0)),(1,some (.bool a0)),(2,some (slK (kInt .u32) a1)),(3,some (.int .i64 a2)),(4,some (.bool y130)),(6,some (.bool a5)),(14,some (.int .i64 (IntKind.i64.wrap (x68-a4)))),(15,some (.int .i64 y131)),(28,some (.bool x))] [(0,(.live 85 [(.int .i64 a6),(.bool a7),(slK (kInt .u32) a8),(.int .i64 a9)]))])) ?_ ?_
    ·rintro y132
     dsimp only [dw_cut_j6]
     refine .seq<|?_
     refine T.cond_p rfl iff_b (fun h90 h91=>?_) (fun h90 h91=>?_)
     ·refine .skip<|.seq<|.seq<|.block<|.region<|.p (mv rfl)<|.p (mv rfl)<|.bind fun x134 h93=>.p (c0 (nat_Bit_p h93) rfl)<|.p (sg rfl)<|.nil<|.block<|.seq<|.region<|?_
      refine .p (mv rfl)<|.p (ar rfl)<|.p (sg rfl)<|.nil<|.again (x134,(IntKind.i64.wrap (y131+1))) (jn (m:=1) [(0,0)] hE (.p rfl rfl<|.b rfl<|.l rfl<|.i rfl<|.b rfl<|.b rfl<|.i rfl<|.i rfl<|.nil) (.v rfl (.i<|.b<|.l<|.i<|.nil)<|.nil) rfl) rfl
     ·refine .exit<|.seq_exit<|.loop_exit<|.block_exit<|.weak (h76 y130) (jn (m:=1) [(0,0)] hE (.p rfl rfl<|.b rfl<|.l rfl<|.i rfl<|.b rfl<|.b rfl<|.i rfl<|.nil) (.v rfl (.i<|.b<|.l<|.i<|.nil)<|.nil) rfl)
    ·intro h94
     refine .region<|.p (mv rfl)<|.p (mv rfl)<|.p (ar rfl)<|.p (mv rfl)<|?_
     refine TR.gd 25 _ rfl iff_dec (fun h95=>?_) (fun h95=>?_)
     ·refine .p (mv rfl)<|.p (un rfl)<|.p (pt rfl)<|.nil<|.weak (h94 (!y130)) (jn (m:=1) [(0,0)] hE (.p rfl rfl<|.b rfl<|.l rfl<|.i rfl<|.b rfl<|.b rfl<|.i rfl<|.i rfl<|.b rfl<|.nil) (.v rfl (.i<|.b<|.l<|.i<|.nil)<|.nil) rfl)
     ·refine .k rfl<|.k rfl<|.p (pf rfl)<|.nil<|.weak (h94 false) (jn (m:=1) [(0,0)] hE (.p rfl rfl<|.b rfl<|.l rfl<|.i rfl<|.b rfl<|.b rfl<|.i rfl<|.i rfl<|.b rfl<|.nil) (.v rfl (.i<|.b<|.l<|.i<|.nil)<|.nil) rfl)
  ·refine .skip<|.weak (h54 (a1,a2,a3)) (jn (m:=1) [(0,0)] hE (.p rfl rfl<|.b rfl<|.l rfl<|.i rfl<|.b rfl<|.b rfl<|.nil) (.v rfl (.i<|.b<|.l<|.i<|.nil)<|.nil) rfl)
theorem dw_cut_k {a0:Bool} {a1:List Int} {a2:Int} {a3:Bool} {a4:Int} {a5:Bool} {a6:Int} {a7:Bool} {a8:List Int} {a9:Int} {r:Bool × (List Int) × Int} (h:dw_cut a0 a1 a2 a3 a4 a5 a6 a7 a8 a9=some r):Cal Tryz.prog 148 [(.ptr 0 0),(.bool a0),(slK (kInt .u32) a1),(.int .i64 a2),(.bool a3),(.int .i64 a4),(.bool a5)] [(.live 85 [(.int .i64 a6),(.bool a7),(slK (kInt .u32) a8),(.int .i64 a9)])] (.tup []) [(.live 85 [(.int .i64 a6),(.bool r.1),(slK (kInt .u32) r.2.1),(.int .i64 r.2.2)])]:=⟨⟨_,func148,nm148,rfl⟩,dw_cut_c a0 a1 a2 a3 a4 a5 a6 a7 a8 a9 _ h⟩
theorem dyad_inRange_c (a0:AD):∀ r,dyad_inRange a0=some r→ACalls Tryz.prog 137 [(.agg (kD.enc a0))] (lw []) (.bool r) (ld []):=by
 unfold dyad_inRange
 refine go 0 func137 ntmps137 rfl ?_
 intro E hE
 refine .seq<|.region<|.w (bx 0 rfl)<|.p (sg rfl)<|.nil<|.seq<|.seq<|?_
 refine T.cut (X:=Bool) (fun x=>dyad_inRange_j1 x) (fun x=>(mkS [(2,some (.bool x))] [])) ?_ ?_
 ·rintro y17
  dsimp only [dyad_inRange_j1]
  refine .seq<|.ret<|fin_1 (.inr rfl) (.nil _) results137 (.t rfl) (AVle.refl _)
 ·intro h9
  refine .region<|.p (la ag26 rfl)<|.bind fun x18 h10=>.p (c0 (dyad_zero_p h10) rfl)<|.p (mv rfl)<|?_
  refine TR.gd 5 _ rfl iff_b (fun h11=>?_) (fun h11=>?_)
  ·refine .k rfl<|.k rfl<|.k rfl<|.k rfl<|.k rfl<|.k rfl<|.k rfl<|.k rfl<|.k rfl<|.k rfl<|.k rfl<|.k rfl<|.k rfl<|.k rfl<|?_
   refine .k rfl<|.p (pt rfl)<|.p (sg rfl)<|.nil<|.weak (h9 true) (jn (m:=0) [] hE (.b rfl<|.nil) .nil rfl)
  ·refine .p (la ag26 rfl)<|.bind fun x19 h12=>.p (c0 (dyad_size_p h12) rfl)<|.bind fun x20 h13=>.p (c0 (dyad_within_p h13) rfl)<|.p (mv rfl)<|?_
   refine TR.gd 9 _ rfl iff_b (fun h14=>?_) (fun h14=>?_)
   ·refine .p (fa 2 fl26_1 rfl)<|.p (ls sc3 rfl)<|.bind fun x21 h15=>.p (c0 (dyad_within_p h15) rfl)<|.p (pt rfl)<|.p (mv rfl)<|?_
    refine TR.gd 14 _ rfl iff_b (fun h16=>?_) (fun h16=>?_)
    ·refine .p (fa 0 fl26_0 rfl)<|.p (fa 1 fl24_1 rfl)<|.p (ls sc22 rfl)<|.bind fun x22 h17=>.p (c0 (nat_Bits_p h17) rfl)<|.p (ar rfl)<|.p (pt rfl)<|.p (pf rfl)<|.p (sg rfl)<|.nil<|.weak (h9 (decide (x22≤262144))) (jn (m:=0) [] hE (.b rfl<|.nil) .nil rfl)
    ·refine .k rfl<|.k rfl<|.k rfl<|.k rfl<|.k rfl<|.p (pf rfl)<|.p (pf rfl)<|.p (sg rfl)<|.nil<|.weak (h9 false) (jn (m:=0) [] hE (.b rfl<|.nil) .nil rfl)
   ·refine .k rfl<|.k rfl<|.k rfl<|.p (pf rfl)<|.p (mv rfl)<|.k rfl<|.k rfl<|.k rfl<|.k rfl<|.k rfl<|.p (pf rfl)<|.p (pf rfl)<|.p (sg rfl)<|.nil<|.weak (h9 false) (jn (m:=0) [] hE (.b rfl<|.nil) .nil rfl)
theorem dyad_inRange_p {a0:AD} {r:Bool} (h:dyad_inRange a0=some r):Pur Tryz.prog 137 [(.agg (kD.enc a0))] (.bool r):=⟨⟨_,func137,nm137,rfl⟩,dyad_inRange_c a0 _ h,fun _=>(.a kD<|.nil),fun _=>(.bool _)⟩
theorem dw_told_c (a0:Int) (a1:Bool) (a2:List Int) (a3:Int):∀ r,dw_told a0 a1 a2 a3=some r→ACalls Tryz.prog 78 [(.ptr 0 0)] (lw [(.live 85 [(.int .i64 a0),(.bool a1),(slK (kInt .u32) a2),(.int .i64 a3)])]) (.tup [(.agg (kD.enc (⟨((r.1).M),(r.1).E⟩:AD))),(.int .i64 r.2.1)]) (ld [(.live 85 [(.int .i64 r.2.2),(.bool a1),(slK (kInt .u32) a2),(.int .i64 a3)])]):=by
 unfold dw_told
 refine go 1 func78 ntmps78 rfl ?_
 intro E hE
 refine .seq<|.region<|.w (al 1 ze26 rfl)<|.p (sg rfl)<|.nil<|.seq<|.seq<|.seq<|?_
 refine T.cut (X:=Bool × Int) (fun x=>dw_told_j1 a1 a2 a3 x.1 x.2) (fun x=>(mkS [(0,some (.ptr 0 0)),(2,some (.ptr 1 0)),(21,some (.bool x.1))] [(0,(.live 85 [(.int .i64 x.2),(.bool a1),(slK (kInt .u32) a2),(.int .i64 a3)])),(1,(.live 26 [(.bool false),(slK (kInt .u32) []),(.int .i64 0)]))])) ?_ ?_
 ·rintro ⟨y12,y13⟩
  dsimp only [dw_told_j1]
  refine .seq<|?_
  refine T.cond_p rfl iff_b (fun h5 h6=>?_) (fun h5 h6=>?_)
  ·refine .seq<|.draw mixed<|.p (bd ze26 pl26 rfl)<|.p (mv rfl)<|.p (nc rfl)<|.p (fa 0 fl85_0 rfl)<|.p (fa 0 fl83_0 rfl)<|.p (ls sc29 rfl)<|.n (sa ag26 rfl)<|.p (sg rfl)<|.nil (by kernel_rfl)<|.seq<|.ret<|.seq_ret<|fin_2 (.inr rfl) (.k rfl (.nil _)) results78 (.a ag26 rfl) (.t rfl) (AVle.refl _)
  ·refine .skip<|.seq<|.seq<|.region<|.p (mv rfl)<|.p (nc rfl)<|.p (fa 1 fl85_1 rfl)<|.p (la ag26 rfl)<|.n (sa ag26 rfl)<|.p (sg rfl)<|.nil<|.seq<|.ret<|fin_2 (.inr rfl) (.k rfl (.nil _)) results78 (.a ag26 rfl) (.t rfl) (AVle.refl _)
 ·intro h7
  refine .draw mixed<|.p (mv rfl)<|.p (nc rfl)<|.p (fa 0 fl85_0 rfl)<|.p (mv rfl)<|.p (nc rfl)<|.p (fa 0 fl85_0 rfl)<|.p (fa 0 fl83_0 rfl)<|.p (ls sc29 rfl)<|.p (ar rfl)<|.p (mv rfl)<|?_
  refine TD.gd 13 _ rfl iff_ne (fun h8=>?_) (fun h8=>?_)
  ·refine .k rfl<|.k rfl<|.k rfl<|.k rfl<|.k rfl<|.p (pt rfl)<|.bind fun x14 h9=>.w (cl (dyad_fault_must_k h9) [0] [] [true] rfl (.p rfl<|.b<|.i<|.nil) (.p rfl (.i<|.b<|.l<|.i<|.nil) .nil) fnil (.cons (.v (.i<|.b<|.l<|.i<|.nil)) .nil) (.bool _) (.turned .nil) rfl)<|.p (un rfl)<|.nil (by kernel_rfl)<|.weak (h7 ((!x14.1),x14.2)) (jn (m:=1) [(0,0),(1,1)] hE (.p rfl rfl<|.p rfl rfl<|.b rfl<|.nil) (.v rfl (.i<|.b<|.l<|.i<|.nil)<|.v rfl (.b<|.l<|.i<|.nil)<|.nil) rfl)
  ·refine .p (mv rfl)<|.p (nc rfl)<|.p (fa 1 fl85_1 rfl)<|.p (la ag26 rfl)<|.bind fun x15 h10=>.p (c0 (dyad_inRange_p h10) rfl)<|.p (pf rfl)<|.bind fun x16 h11=>.w (cl (dyad_fault_must_k h11) [0] [] [true] rfl (.p rfl<|.b<|.i<|.nil) (.p rfl (.i<|.b<|.l<|.i<|.nil) .nil) fnil (.cons (.v (.i<|.b<|.l<|.i<|.nil)) .nil) (.bool _) (.turned .nil) rfl)<|.p (un rfl)<|.nil (by kernel_rfl)<|.weak (h7 ((!x16.1),x16.2)) (jn (m:=1) [(0,0),(1,1)] hE (.p rfl rfl<|.p rfl rfl<|.b rfl<|.nil) (.v rfl (.i<|.b<|.l<|.i<|.nil)<|.v rfl (.b<|.l<|.i<|.nil)<|.nil) rfl)
theorem dw_told_k {a0:Int} {a1:Bool} {a2:List Int} {a3:Int} {r:AD × Int × Int} (h:dw_told a0 a1 a2 a3=some r):Cal Tryz.prog 78 [(.ptr 0 0)] [(.live 85 [(.int .i64 a0),(.bool a1),(slK (kInt .u32) a2),(.int .i64 a3)])] (.tup [(.agg (kD.enc (⟨((r.1).M),(r.1).E⟩:AD))),(.int .i64 r.2.1)]) [(.live 85 [(.int .i64 r.2.2),(.bool a1),(slK (kInt .u32) a2),(.int .i64 a3)])]:=⟨⟨_,func78,nm78,rfl⟩,dw_told_c a0 a1 a2 a3 _ h⟩
theorem dyad_Div_c (a0:AD) (a1:AD) (a2:Int) (a3:Bool):∀ r,dyad_Div a0 a1 a2 a3=some r→ACalls Tryz.prog 97 [(.agg (kD.enc a0)),(.agg (kD.enc a1)),(.int .i64 a2),(.bool a3)] (lw []) (.tup [(.agg (kD.enc (⟨((r.1).M),(r.1).E⟩:AD))),(.int .i64 r.2)]) (ld []):=by
 unfold dyad_Div
 refine go 0 func97 ntmps97 rfl ?_
 intro E hE
 refine .seq<|.region<|.w (bx 0 rfl)<|.w (bx 1 rfl)<|.w (al 2 ze26 rfl)<|.p (sg rfl)<|.nil<|.seq<|.seq<|.region<|.p (bd ze85 pl85 rfl)<|.w (bx 3 rfl)<|.p (sg rfl)<|.nil<|?_
 refine .seq<|.seq<|.seq<|?_
 refine T.cut (X:=Bool × Int) (fun x=>dyad_Div_j1 a1 a0 a2 a3 x.1 x.2) (fun x=>(mkS [(2,some (.int .i64 a2)),(3,some (.bool a3)),(4,some (.ptr 0 0)),(5,some (.ptr 1 0)),(8,some (.ptr 2 0)),(10,some (.ptr 3 0)),(41,some (.bool x.1))] [(0,(.live 26 [(.bool a0.M.Neg),(slK (kInt .u32) a0.M.Mag),(.int .i64 a0.E)])),(1,(.live 26 [(.bool a1.M.Neg),(slK (kInt .u32) a1.M.Mag),(.int .i64 a1.E)])),(2,(.live 26 [(.bool false),(slK (kInt .u32) []),(.int .i64 0)])),(3,(.live 85 [(.int .i64 x.2),(.bool false),(slK (kInt .u32) []),(.int .i64 0)]))])) ?_ ?_
 ·rintro ⟨y32,y33⟩
  dsimp only [dyad_Div_j1]
  refine .seq<|?_
  refine T.cut (X:=Bool × (List Int) × Int) (fun x=>dyad_Div_j2 y33 x.1 x.2.1 x.2.2) (fun x=>(mkS [(8,some (.ptr 2 0)),(10,some (.ptr 3 0))] [(2,(.live 26 [(.bool false),(slK (kInt .u32) []),(.int .i64 0)])),(3,(.live 85 [(.int .i64 y33),(.bool x.1),(slK (kInt .u32) x.2.1),(.int .i64 x.2.2)]))])) ?_ ?_
  ·rintro ⟨y39,y40,y41⟩
   dsimp only [dyad_Div_j2]
   refine .seq<|.seq<|.region<|.p (mv rfl)<|.bind fun x42 h16=>.w (cl (dw_told_k h16) [3] [] [true] rfl (.p rfl<|.nil) (.p rfl (.i<|.b<|.l<|.i<|.nil) .nil) fnil (.cons (.v (.i<|.b<|.l<|.i<|.nil)) .nil) (ren_tupL (.a kD<|.i<|.nil)) (.turned .nil) rfl)<|.p (xt rfl)<|.p (xt rfl)<|.n (sa ag26 rfl)<|.p (sg rfl)<|.nil<|.seq<|.ret<|fin_2 (.inr rfl) (.nil _) results97 (.a ag26 rfl) (.t rfl) (AVle.refl _)
  ·intro h17
   refine T.cond_p rfl iff_b (fun h18 h19=>?_) (fun h18 h19=>?_)
   ·refine .seq<|.draw mixed<|.p (mv rfl)<|.p (ar rfl)<|.p (fa 0 fl26_0 rfl)<|.p (fa 1 fl24_1 rfl)<|.p (ls sc22 rfl)<|.bind fun x43 h20=>.p (c0 (nat_Bits_p h20) rfl)<|.p (ar rfl)<|.p (fa 0 fl26_0 rfl)<|.p (fa 1 fl24_1 rfl)<|.p (ls sc22 rfl)<|.bind fun x44 h21=>?_
    refine .p (c0 (nat_Bits_p h21) rfl)<|.p (ar rfl)<|?_
    refine TD.st 54 (.int .i64 (mx 0 (IntKind.i64.wrap ((IntKind.i64.wrap ((IntKind.i64.wrap (a2+2))+x43))-x44)))) [] (snd_max _ _ _ _ _ _ rfl rfl rfl rfl rfl) rfl rfl rfl ?_
    refine .p (sg rfl)<|.nil (by kernel_rfl)<|.seq<|.seq<|.region<|.p (fa 0 fl26_0 rfl)<|.p (fa 0 fl24_0 rfl)<|.p (ls sc4 rfl)<|.p (fa 0 fl26_0 rfl)<|.p (fa 0 fl24_0 rfl)<|.p (ls sc4 rfl)<|?_
    refine TR.st 61 (.bool (a0.M.Neg != a1.M.Neg)) [] (snd_bool_neq _ _ _ _ _ _ rfl underlying4 rfl rfl rfl rfl) rfl rfl rfl ?_
    refine .p (sg rfl)<|.nil<|.seq<|.seq<|.draw mixed<|.p (fa 0 fl26_0 rfl)<|.p (fa 1 fl24_1 rfl)<|.p (ls sc22 rfl)<|.p (mv rfl)<|.bind fun x45 h22=>.p (c0 (dyad_up_p h22) rfl)<|.p (fa 0 fl26_0 rfl)<|.p (fa 1 fl24_1 rfl)<|.p (ls sc22 rfl)<|?_
    refine .bind fun x46 h23=>.p (c0 (quo_DivMod_p h23) rfl)<|.p (mv rfl)<|.p (xt rfl)<|.p (xt rfl)<|.p (xt rfl)<|.p (sg rfl)<|.p (sg rfl)<|.p (sg rfl)<|.nil (by kernel_rfl)<|.seq<|.region<|.p (mv rfl)<|.p (mv rfl)<|?_
    refine .p (mv rfl)<|.p (fa 2 fl26_1 rfl)<|.p (ls sc3 rfl)<|.p (fa 2 fl26_1 rfl)<|.p (ls sc3 rfl)<|.p (ar rfl)<|.p (mv rfl)<|.p (ar rfl)<|.p (mv rfl)<|.p (ln underlying22 rfl)<|.p (ar rfl)<|.p (mv rfl)<|.p (mv rfl)<|.p (mv rfl)<|?_
    refine TR.st 91 (.bool (a3 != (a0.M.Neg != a1.M.Neg))) [] (snd_bool_neq _ _ _ _ _ _ rfl underlying4 rfl rfl rfl rfl) rfl rfl rfl ?_
    refine .bind fun x47 h24=>.w (cl (dw_cut_k h24) [3] [] [true] rfl (.p rfl<|.b<|.l<|.i<|.b<|.i<|.b<|.nil) (.p rfl (.i<|.b<|.l<|.i<|.nil) .nil) fnil (.cons (.v (.i<|.b<|.l<|.i<|.nil)) .nil) (ren_tupL .nil) (.turned .nil) rfl)<|.nil<|.weak (h17 (x47.1,x47.2.1,x47.2.2)) (jn (m:=0) [(2,2),(3,3)] hE (.p rfl rfl<|.p rfl rfl<|.nil) (.v rfl (.b<|.l<|.i<|.nil)<|.v rfl (.i<|.b<|.l<|.i<|.nil)<|.nil) rfl)
   ·refine .skip<|.weak (h17 (false,[],0)) (jn (m:=0) [(2,2),(3,3)] hE (.p rfl rfl<|.p rfl rfl<|.nil) (.v rfl (.b<|.l<|.i<|.nil)<|.v rfl (.i<|.b<|.l<|.i<|.nil)<|.nil) rfl)
 ·intro h25
  refine .draw mixed<|.p (mv rfl)<|.p (la ag26 rfl)<|.p (la ag26 rfl)<|?_
  refine TD.st 21 (slK kD [a0,a1]) [] (snd_buildSlice _ _ _ 3 _ _ [(0,(.agg (kD.enc a0))),(1,(.agg (kD.enc a1)))] (List.map kD.enc [a0,a1]) rfl underlying96 ze26 si26 rfl rfl rfl (by decide) (by decide) (by decide) rfl rfl (Kd.even _) rfl) rfl rfl rfl ?_
  refine .bind fun x48 h26=>.w (cl (dw_right_k h26) [3] [] [true] rfl (.p rfl<|.l<|.nil) (.p rfl (.i<|.b<|.l<|.i<|.nil) .nil) fnil (.cons (.v (.i<|.b<|.l<|.i<|.nil)) .nil) (.bool _) (.turned .nil) rfl)<|.p (mv rfl)<|?_
  refine TD.gd 23 _ rfl iff_b (fun h27=>?_) (fun h27=>?_)
  ·refine .p (mv rfl)<|.p (mv rfl)<|.bind fun x49 h28=>.w (cl (dw_prec_k h28) [3] [] [true] rfl (.p rfl<|.i<|.nil) (.p rfl (.i<|.b<|.l<|.i<|.nil) .nil) fnil (.cons (.v (.i<|.b<|.l<|.i<|.nil)) .nil) (.bool _) (.turned .nil) rfl)<|.p (pt rfl)<|.p (mv rfl)<|?_
   refine TD.gd 28 _ rfl iff_b (fun h29=>?_) (fun h29=>?_)
   ·refine .p (mv rfl)<|.p (nc rfl)<|.p (fa 0 fl85_0 rfl)<|.p (la ag26 rfl)<|.bind fun x50 h30=>.p (c0 (dyad_zero_p h30) rfl)<|.p (un rfl)<|.bind fun x51 h31=>.w (cl (dyad_fault_must_k h31) [3] [] [true] rfl (.p rfl<|.b<|.i<|.nil) (.p rfl (.i<|.b<|.l<|.i<|.nil) .nil) fnil (.cons (.v (.i<|.b<|.l<|.i<|.nil)) .nil) (.bool _) (.turned .nil) rfl)<|.p (pt rfl)<|.p (mv rfl)<|?_
    refine TD.gd 37 _ rfl iff_b (fun h32=>?_) (fun h32=>?_)
    ·refine .p (la ag26 rfl)<|.bind fun x52 h33=>.p (c0 (dyad_zero_p h33) rfl)<|.p (un rfl)<|.p (pt rfl)<|.nil (by kernel_rfl)<|.weak (h25 ((!x52),x51.2)) (jn (m:=0) [(0,0),(1,1),(2,2),(3,3)] hE (.i rfl<|.b rfl<|.p rfl rfl<|.p rfl rfl<|.p rfl rfl<|.p rfl rfl<|.b rfl<|.nil) (.v rfl (.b<|.l<|.i<|.nil)<|.v rfl (.b<|.l<|.i<|.nil)<|.v rfl (.b<|.l<|.i<|.nil)<|.v rfl (.i<|.b<|.l<|.i<|.nil)<|.nil) rfl)
    ·refine .k rfl<|.k rfl<|.k rfl<|.p (pf rfl)<|.nil (by kernel_rfl)<|.weak (h25 (false,x51.2)) (jn (m:=0) [(0,0),(1,1),(2,2),(3,3)] hE (.i rfl<|.b rfl<|.p rfl rfl<|.p rfl rfl<|.p rfl rfl<|.p rfl rfl<|.b rfl<|.nil) (.v rfl (.b<|.l<|.i<|.nil)<|.v rfl (.b<|.l<|.i<|.nil)<|.v rfl (.b<|.l<|.i<|.nil)<|.v rfl (.i<|.b<|.l<|.i<|.nil)<|.nil) rfl)
   ·refine .k rfl<|.k rfl<|.k rfl<|.k rfl<|.k rfl<|.k rfl<|.k rfl<|.p (pf rfl)<|.p (mv rfl)<|.k rfl<|.k rfl<|.k rfl<|.p (pf rfl)<|.nil (by kernel_rfl)<|.weak (h25 (false,x49.2)) (jn (m:=0) [(0,0),(1,1),(2,2),(3,3)] hE (.i rfl<|.b rfl<|.p rfl rfl<|.p rfl rfl<|.p rfl rfl<|.p rfl rfl<|.b rfl<|.nil) (.v rfl (.b<|.l<|.i<|.nil)<|.v rfl (.b<|.l<|.i<|.nil)<|.v rfl (.b<|.l<|.i<|.nil)<|.v rfl (.i<|.b<|.l<|.i<|.nil)<|.nil) rfl)
  ·refine .k rfl<|.k rfl<|.k rfl<|.p (pf rfl)<|.p (mv rfl)<|.k rfl<|.k rfl<|.k rfl<|.k rfl<|.k rfl<|.k rfl<|.k rfl<|.p (pf rfl)<|.p (mv rfl)<|?_
   refine .k rfl<|.k rfl<|.k rfl<|.p (pf rfl)<|.nil (by kernel_rfl)<|.weak (h25 (false,x48.2)) (jn (m:=0) [(0,0),(1,1),(2,2),(3,3)] hE (.i rfl<|.b rfl<|.p rfl rfl<|.p rfl rfl<|.p rfl rfl<|.p rfl rfl<|.b rfl<|.nil) (.v rfl (.b<|.l<|.i<|.nil)<|.v rfl (.b<|.l<|.i<|.nil)<|.v rfl (.b<|.l<|.i<|.nil)<|.v rfl (.i<|.b<|.l<|.i<|.nil)<|.nil) rfl)
theorem dyad_Div_p {a0:AD} {a1:AD} {a2:Int} {a3:Bool} {r:AD × Int} (h:dyad_Div a0 a1 a2 a3=some r):Pur Tryz.prog 97 [(.agg (kD.enc a0)),(.agg (kD.enc a1)),(.int .i64 a2),(.bool a3)] (.tup [(.agg (kD.enc (⟨((r.1).M),(r.1).E⟩:AD))),(.int .i64 r.2)]):=⟨⟨_,func97,nm97,rfl⟩,dyad_Div_c a0 a1 a2 a3 _ h,fun _=>(.a kD<|.a kD<|.i<|.b<|.nil),fun _=>(ren_tupL (.a kD<|.i<|.nil))⟩
theorem cv_Div_1_1_c (a0:AD) (a1:AD) (a2:Int) (a3:Int) (a4:Bool):∀ r,cv_Div_1_1 a0 a1 a2 a3 a4=some r→ACalls Tryz.prog 96 [(.agg (kD.enc a0)),(.agg (kD.enc a1)),(.ptr 0 0),(.ptr 2 0)] (lw [(.live 28 [(.ptr 1 0)]),(.live 45 [(.int .i64 a2),(.int .i64 a3)]),(.live 4 [(.bool a4)])]) (.tup [(.agg (kD.enc (⟨((r.1).M),(r.1).E⟩:AD))),(.int .i64 r.2)]) (ld [(.live 28 [(.ptr 1 0)]),(.live 45 [(.int .i64 a2),(.int .i64 a3)]),(.live 4 [(.bool a4)])]):=by
 unfold cv_Div_1_1
 refine go 3 func96 ntmps96 rfl ?_
 intro E hE
 refine .seq<|.region<|.w (bx 3 rfl)<|.w (bx 4 rfl)<|.w (al 5 ze26 rfl)<|.p (sg rfl)<|.nil<|.seq<|.seq<|.draw mixed<|.p (la ag26 rfl)<|.p (la ag26 rfl)<|.p (ls sc28 rfl)<|.p (nc rfl)<|?_
 refine .p (fa 1 fl45_1 rfl)<|.p (ls sc3 rfl)<|.p (ls sc4 rfl)<|.bind fun x2 h1=>.p (c0 (dyad_Div_p h1) rfl)<|.p (xt rfl)<|.p (xt rfl)<|.n (sa ag26 rfl)<|.p (sg rfl)<|.nil (by kernel_rfl)<|.seq<|.ret<|fin_2 (.inr rfl) (.k rfl (.k rfl (.k rfl (.nil _)))) results96 (.a ag26 rfl) (.t rfl) (AVle.refl _)
theorem cv_Div_1_1_k {a0:AD} {a1:AD} {a2:Int} {a3:Int} {a4:Bool} {r:AD × Int} (h:cv_Div_1_1 a0 a1 a2 a3 a4=some r):Cal Tryz.prog 96 [(.agg (kD.enc a0)),(.agg (kD.enc a1)),(.ptr 0 0),(.ptr 2 0)] [(.live 28 [(.ptr 1 0)]),(.live 45 [(.int .i64 a2),(.int .i64 a3)]),(.live 4 [(.bool a4)])] (.tup [(.agg (kD.enc (⟨((r.1).M),(r.1).E⟩:AD))),(.int .i64 r.2)]) [(.live 28 [(.ptr 1 0)]),(.live 45 [(.int .i64 a2),(.int .i64 a3)]),(.live 4 [(.bool a4)])]:=⟨⟨_,func96,nm96,rfl⟩,cv_Div_1_1_c a0 a1 a2 a3 a4 _ h⟩
theorem cv_take_c (a0:AD) (a1:Int) (a2:Int) (a3:Int):∀ r,cv_take a0 a1 a2 a3=some r→ACalls Tryz.prog 91 [(.ptr 0 0),(.agg (kD.enc a0)),(.int .i64 a1)] (lw [(.live 45 [(.int .i64 a2),(.int .i64 a3)])]) (.agg (kD.enc (⟨((r.1).M),(r.1).E⟩:AD))) (ld [(.live 45 [(.int .i64 r.2),(.int .i64 a3)])]):=by
 unfold cv_take
 refine go 1 func91 ntmps91 rfl ?_
 intro E hE
 refine .seq<|.region<|.w (bx 1 rfl)<|.w (al 2 ze26 rfl)<|.nil<|.seq<|.seq<|.seq<|.region<|.p (mv rfl)<|.p (nc rfl)<|.p (fa 0 fl45_0 rfl)<|.p (mv rfl)<|.bind fun x2 h1=>?_
 refine .w (cl (iv_trouble_note_k h1) [0] [] [true] rfl (.p rfl<|.i<|.nil) (.p rfl (.i<|.i<|.nil) .nil) fnil (.cons (.v (.i<|.i<|.nil)) .nil) (.bool _) (.turned .nil) rfl)<|.p (un rfl)<|.nil<|.seq<|?_
 refine T.cond_p rfl iff_nb (fun h2 h3=>?_) (fun h2 h3=>?_)
 ·refine .seq<|.region<|.p (bd ze26 pl26 rfl)<|.n (sa ag26 rfl)<|.nil<|.seq<|.ret<|.seq_ret<|fin_1 (.inr rfl) (.k rfl (.nil _)) results91 (.a ag26 rfl) (AVle.refl _)
 ·refine .skip<|.seq<|.seq<|.region<|.p (la ag26 rfl)<|.n (sa ag26 rfl)<|.nil<|.seq<|.ret<|fin_1 (.inr rfl) (.k rfl (.nil _)) results91 (.a ag26 rfl) (AVle.refl _)
theorem cv_take_k {a0:AD} {a1:Int} {a2:Int} {a3:Int} {r:AD × Int} (h:cv_take a0 a1 a2 a3=some r):Cal Tryz.prog 91 [(.ptr 0 0),(.agg (kD.enc a0)),(.int .i64 a1)] [(.live 45 [(.int .i64 a2),(.int .i64 a3)])] (.agg (kD.enc (⟨((r.1).M),(r.1).E⟩:AD))) [(.live 45 [(.int .i64 r.2),(.int .i64 a3)])]:=⟨⟨_,func91,nm91,rfl⟩,cv_take_c a0 a1 a2 a3 _ h⟩
theorem cv_four_e8e7_c (a0:AI) (a1:AI) (a2:Int) (a3:Int) (a4:Bool):∀ r,cv_four_e8e7 a0 a1 a2 a3 a4=some r→ACalls Tryz.prog 90 [(.ptr 0 0),(.agg (kI.enc a0)),(.agg (kI.enc a1)),(.fn 96 [] [(.ptr 1 0),(.ptr 2 0)])] (lw [(.live 45 [(.int .i64 a2),(.int .i64 a3)]),(.live 28 [(.ptr 0 0)]),(.live 4 [(.bool a4)])]) (slK kD r.1) (ld [(.live 45 [(.int .i64 r.2),(.int .i64 a3)]),(.live 28 [(.ptr 0 0)]),(.live 4 [(.bool a4)])]):=by
 unfold cv_four_e8e7
 refine go 3 func90 ntmps90 rfl ?_
 intro E hE
 refine .seq<|.region<|.w (bx 3 rfl)<|.w (bx 4 rfl)<|.p (sg rfl)<|.nil<|.seq<|.seq<|.draw mixed<|.p (fa 0 fl34_0 rfl)<|.p (la ag26 rfl)<|.p (fa 3 fl34_1 rfl)<|.p (la ag26 rfl)<|?_
 refine TD.st 20 (slK kD [a0.Lo,a0.Hi]) [] (snd_buildSlice _ _ _ 3 _ _ [(0,(.agg (kD.enc a0.Lo))),(1,(.agg (kD.enc a0.Hi)))] (List.map kD.enc [a0.Lo,a0.Hi]) rfl underlying96 ze26 si26 rfl rfl rfl (by decide) (by decide) (by decide) rfl rfl (Kd.even _) rfl) rfl rfl rfl ?_
 refine .p (fa 0 fl34_0 rfl)<|.p (la ag26 rfl)<|.p (fa 3 fl34_1 rfl)<|.p (la ag26 rfl)<|?_
 refine TD.st 25 (slK kD [a1.Lo,a1.Hi]) [] (snd_buildSlice _ _ _ 3 _ _ [(0,(.agg (kD.enc a1.Lo))),(1,(.agg (kD.enc a1.Hi)))] (List.map kD.enc [a1.Lo,a1.Hi]) rfl underlying96 ze26 si26 rfl rfl rfl (by decide) (by decide) (by decide) rfl rfl (Kd.even _) rfl) rfl rfl rfl ?_
 refine .p (sg rfl)<|.p (sg rfl)<|.nil (by kernel_rfl)<|.seq<|.seq<|.seq<|.region<|.p (fa 0 fl34_0 rfl)<|.p (la ag26 rfl)<|.p (fa 3 fl34_1 rfl)<|.p (la ag26 rfl)<|.bind fun x487 h1=>.p (c0 (dyad_Cmp_p h1) rfl)<|.p (ar rfl)<|?_
 refine .nil<|.seq<|?_
 refine T.cut (X:=(List AD)) (fun x=>cv_four_e8e7_j1 a1 a3 a4 a2 x) (fun x=>(mkS [(0,some (.ptr 0 0)),(3,some (.fn 96 [] [(.ptr 1 0),(.ptr 2 0)])),(6,some (.ptr 4 0)),(9,some (slK kD x)),(10,some (slK kD [a1.Lo,a1.Hi]))] [(0,(.live 45 [(.int .i64 a2),(.int .i64 a3)])),(1,(.live 28 [(.ptr 0 0)])),(2,(.live 4 [(.bool a4)])),(4,(.live 34 [(.bool a1.Lo.M.Neg),(slK (kInt .u32) a1.Lo.M.Mag),(.int .i64 a1.Lo.E),(.bool a1.Hi.M.Neg),(slK (kInt .u32) a1.Hi.M.Mag),(.int .i64 a1.Hi.E)]))])) ?_ ?_
 ·rintro y488
  dsimp only [cv_four_e8e7_j1]
  refine .seq<|.seq<|.seq<|.region<|.p (fa 0 fl34_0 rfl)<|.p (la ag26 rfl)<|.p (fa 3 fl34_1 rfl)<|.p (la ag26 rfl)<|.bind fun x489 h5=>.p (c0 (dyad_Cmp_p h5) rfl)<|.p (ar rfl)<|.nil<|.seq<|?_
  refine T.cut (X:=(List AD)) (fun x=>cv_four_e8e7_j2 y488 a3 a4 a2 x) (fun x=>(mkS [(0,some (.ptr 0 0)),(3,some (.fn 96 [] [(.ptr 1 0),(.ptr 2 0)])),(9,some (slK kD y488)),(10,some (slK kD x))] [(0,(.live 45 [(.int .i64 a2),(.int .i64 a3)])),(1,(.live 28 [(.ptr 0 0)])),(2,(.live 4 [(.bool a4)]))])) ?_ ?_
  ·rintro y490
   dsimp only [cv_four_e8e7_j2]
   refine .seq<|.seq<|.region<|.p (sg rfl)<|.nil<|.seq<|.seq<|.seq<|.region<|.p (mv rfl)<|.p (ln underlying96 rfl)<|.p (mv rfl)<|.nil<|.seq<|?_
   refine T.cut (X:=Int × (List AD)) (fun x=>cv_four_e8e7_j3 x.1 x.2) (fun x=>(mkS [(11,some (grA kD 3 x.2))] [(0,(.live 45 [(.int .i64 x.1),(.int .i64 a3)])),(1,(.live 28 [(.ptr 0 0)])),(2,(.live 4 [(.bool a4)])),(3,(grV kD 26 x.2))])) ?_ ?_
   ·rintro ⟨y731,y732⟩
    dsimp only [cv_four_e8e7_j3]
    refine .seq<|.seq<|.region<|.p (mv rfl)<|.p (sg rfl)<|.nil<|.seq<|.ret<|?_
    refine TQ.weak ?_ (fun a w h=>Conc.gr_still kD h 8 3 26 y732 rfl rfl)
    exact fin_1 (.inr rfl) (.k rfl (.k rfl (.k rfl (.nil _)))) results90 (.t rfl) (AVle.refl _)
   ·intro h381
    refine .block<|?_
    refine T.weak ?_ (fun a w h=>Conc.gr_nil kD h 11 3 26 rfl)
    refine .loopW (X:=Int × Int × (List AD)) (fun n x=>cv_four_e8e7_l4 y488 y490 a3 a4 n x.1 x.2.1 x.2.2) (fun x=>(mkS [(0,some (.ptr 0 0)),(3,some (.fn 96 [] [(.ptr 1 0),(.ptr 2 0)])),(10,some (slK kD y490)),(11,some (grA kD 3 x.2.2)),(42,some (slK kD y488)),(43,some (.int .i64 (y488.length:Int))),(44,some (.int .i64 x.1))] [(0,(.live 45 [(.int .i64 x.2.1),(.int .i64 a3)])),(1,(.live 28 [(.ptr 0 0)])),(2,(.live 4 [(.bool a4)])),(3,(grV kD 26 x.2.2))])) (0,a2,[]) (jn (m:=3) [(0,0),(1,1),(2,2),(3,3)] hE (.p rfl rfl<|.g rfl (ren_fnL _ .nil (.p rfl<|.p rfl<|.nil))<|.l rfl<|.g rfl (ren_gr (K:=kD) (by rfl) [])<|.l rfl<|.i rfl<|.i rfl<|.nil) (.v rfl (.i<|.i<|.nil)<|.v rfl (.p rfl<|.nil)<|.v rfl (.b<|.nil)<|.cons (.refl _) (renV_gr (K:=kD) 26 [])<|.nil) rfl) (fun _=>rfl) rfl<|?_
    rintro n4 ⟨y892,y893,y894⟩
    try dsimp only
    rw [cv_four_e8e7_l4]
    refine .seq<|.region<|.p (ar rfl)<|.nil<|.seq<|.seq<|?_
    refine T.cond_p rfl iff_dec (fun h630 h631=>?_) (fun h630 h631=>?_)
    ·refine .skip<|.seq<|.seq<|?_
     refine T.cut (X:=Int × (List AD)) (fun x=>cv_four_e8e7_j5 (fun z0 z1 z2=>cv_four_e8e7_l4 y488 y490 a3 a4 n4 z0 z1 z2) y892 x.1 x.2) (fun x=>(mkS [(0,some (.ptr 0 0)),(3,some (.fn 96 [] [(.ptr 1 0),(.ptr 2 0)])),(10,some (slK kD y490)),(11,some (grA kD 3 x.2)),(42,some (slK kD y488)),(43,some (.int .i64 (y488.length:Int))),(44,some (.int .i64 y892))] [(0,(.live 45 [(.int .i64 x.1),(.int .i64 a3)])),(1,(.live 28 [(.ptr 0 0)])),(2,(.live 4 [(.bool a4)])),(3,(grV kD 26 x.2))])) ?_ ?_
     ·rintro ⟨y933,y934⟩
      dsimp only [cv_four_e8e7_j5]
      refine .seq<|.region<|.p (ar rfl)<|.p (mv rfl)<|.nil<|.again ((IntKind.i64.wrap (y892+1)),y933,y934) (jn (m:=3) [(0,0),(1,1),(2,2),(3,3)] hE (.p rfl rfl<|.g rfl (ren_fnL _ .nil (.p rfl<|.p rfl<|.nil))<|.l rfl<|.g rfl (ren_gr (K:=kD) (by rfl) y934)<|.l rfl<|.i rfl<|.i rfl<|.nil) (.v rfl (.i<|.i<|.nil)<|.v rfl (.p rfl<|.nil)<|.v rfl (.b<|.nil)<|.cons (.refl _) (renV_gr (K:=kD) 26 y934)<|.nil) rfl) rfl
     ·intro h693
      refine .block<|.seq<|.region<|.guard fun h694=>?_
      refine TR.st 46 (.iptr [(.bool (((y488.getD y892.toNat zAD).M).Neg)),(slK (kInt .u32) (((y488.getD y892.toNat zAD).M).Mag)),(.int .i64 ((y488.getD y892.toNat zAD).E))]) [] (snd_indexK kD _ _ _ _ _ _ y892 rfl underlying96 si26 rfl rfl rfl rfl h694) rfl rfl rfl ?_
      refine .p (lai ag26 rfl)<|.w (al 4 ze26 rfl)<|.n (sa ag26 rfl)<|.nil<|.seq<|.seq<|.region<|.p (mv rfl)<|.p (ln underlying96 rfl)<|.p (mv rfl)<|.nil<|.seq<|?_
      refine T.cut (X:=Int × (List AD)) (fun x=>cv_four_e8e7_j6 (fun z0 z1 z2=>cv_four_e8e7_l4 y488 y490 a3 a4 n4 z0 z1 z2) y892 x.1 x.2) (fun x=>(mkS [(0,some (.ptr 0 0)),(3,some (.fn 96 [] [(.ptr 1 0),(.ptr 2 0)])),(10,some (slK kD y490)),(11,some (grA kD 3 x.2)),(42,some (slK kD y488)),(43,some (.int .i64 (y488.length:Int))),(44,some (.int .i64 y892))] [(0,(.live 45 [(.int .i64 x.1),(.int .i64 a3)])),(1,(.live 28 [(.ptr 0 0)])),(2,(.live 4 [(.bool a4)])),(3,(grV kD 26 x.2))])) ?_ ?_
      ·rintro ⟨y953,y954⟩
       dsimp only [cv_four_e8e7_j6]
       refine .block<|.weak (h693 (y953,y954)) (jn (m:=3) [(0,0),(1,1),(2,2),(3,3)] hE (.p rfl rfl<|.g rfl (ren_fnL _ .nil (.p rfl<|.p rfl<|.nil))<|.l rfl<|.g rfl (ren_gr (K:=kD) (by rfl) y954)<|.l rfl<|.i rfl<|.i rfl<|.nil) (.v rfl (.i<|.i<|.nil)<|.v rfl (.p rfl<|.nil)<|.v rfl (.b<|.nil)<|.cons (.refl _) (renV_gr (K:=kD) 26 y954)<|.nil) rfl)
      ·intro h725
       refine .block<|.loopW (X:=Int × Int × (List AD)) (fun n x=>cv_four_e8e7_l7 y490 y488 y892 a3 a4 (fun z0 z1 z2=>cv_four_e8e7_l4 y488 y490 a3 a4 n4 z0 z1 z2) n x.1 x.2.1 x.2.2) (fun x=>(mkS [(0,some (.ptr 0 0)),(3,some (.fn 96 [] [(.ptr 1 0),(.ptr 2 0)])),(10,some (slK kD y490)),(11,some (grA kD 3 x.2.2)),(13,some (.ptr 4 0)),(42,some (slK kD y488)),(43,some (.int .i64 (y488.length:Int))),(44,some (.int .i64 y892)),(48,some (slK kD y490)),(49,some (.int .i64 (y490.length:Int))),(50,some (.int .i64 x.1))] [(0,(.live 45 [(.int .i64 x.2.1),(.int .i64 a3)])),(1,(.live 28 [(.ptr 0 0)])),(2,(.live 4 [(.bool a4)])),(3,(grV kD 26 x.2.2)),(4,(.live 26 [(.bool (((y488.getD y892.toNat zAD).M).Neg)),(slK (kInt .u32) (((y488.getD y892.toNat zAD).M).Mag)),(.int .i64 ((y488.getD y892.toNat zAD).E))]))])) (0,y893,y894) (jn (m:=3) [(0,0),(1,1),(2,2),(3,3),(4,4)] hE (.p rfl rfl<|.g rfl (ren_fnL _ .nil (.p rfl<|.p rfl<|.nil))<|.l rfl<|.g rfl (ren_gr (K:=kD) (by rfl) y894)<|.p rfl rfl<|.l rfl<|.i rfl<|.i rfl<|.l rfl<|.i rfl<|.i rfl<|.nil) (.v rfl (.i<|.i<|.nil)<|.v rfl (.p rfl<|.nil)<|.v rfl (.b<|.nil)<|.cons (.refl _) (renV_gr (K:=kD) 26 y894)<|.v rfl (.b<|.l<|.i<|.nil)<|.nil) rfl) (fun _=>rfl) rfl<|?_
       rintro n7 ⟨y966,y967,y968⟩
       try dsimp only
       rw [cv_four_e8e7_l7]
       refine .seq<|.region<|.p (ar rfl)<|.nil<|.seq<|.seq<|?_
       refine T.cond_p rfl iff_dec (fun h746 h747=>?_) (fun h746 h747=>?_)
       ·refine .skip<|.seq<|.seq<|.block<|.seq<|.region<|.guard fun h752=>?_
        refine TR.st 52 (.iptr [(.bool (((y490.getD y966.toNat zAD).M).Neg)),(slK (kInt .u32) (((y490.getD y966.toNat zAD).M).Mag)),(.int .i64 ((y490.getD y966.toNat zAD).E))]) [] (snd_indexK kD _ _ _ _ _ _ y966 rfl underlying96 si26 rfl rfl rfl rfl h752) rfl rfl rfl ?_
        refine .p (lai ag26 rfl)<|.w (al 5 ze26 rfl)<|.n (sa ag26 rfl)<|.nil<|.seq<|.region<|.p (mv rfl)<|.p (mv rfl)<|.p (mv rfl)<|.p (la ag26 rfl)<|.p (la ag26 rfl)<|.bind fun x971 h753=>.p (cl (cv_Div_1_1_k h753) [1,0,2] [] [false,false,false] rfl (.a kD<|.a kD<|.p rfl<|.p rfl<|.nil) (.p rfl (.p rfl<|.nil) (.p rfl (.i<|.i<|.nil) (.p rfl (.b<|.nil) .nil))) fnil (.cons (.v (.p rfl<|.nil)) (.cons (.v (.i<|.i<|.nil)) (.cons (.v (.b<|.nil)) .nil))) (ren_tupL (.a kD<|.i<|.nil)) (.kept rfl (.kept rfl (.kept rfl .nil))) rfl)<|.p (xt rfl)<|?_
        refine .p (xt rfl)<|.bind fun x972 h754=>.w (cl (cv_take_k h754) [0] [] [true] rfl (.p rfl<|.a kD<|.i<|.nil) (.p rfl (.i<|.i<|.nil) .nil) fnil (.cons (.v (.i<|.i<|.nil)) .nil) (ren_agg (K:=kD) _) (.turned .nil) rfl)<|?_
        refine TR.st 63 (slK kD [(⟨((x972.1).M),(x972.1).E⟩:AD)]) [] (snd_buildSlice _ _ _ 3 _ _ [(0,(.agg (kD.enc (⟨((x972.1).M),(x972.1).E⟩:AD))))] (List.map kD.enc [(⟨((x972.1).M),(x972.1).E⟩:AD)]) rfl underlying96 ze26 si26 rfl rfl rfl (by decide) (by decide) (by decide) rfl rfl (Kd.even _) rfl) rfl rfl rfl ?_
        refine .guard fun h755=>?_
        refine TR.st 64 (.row 6 kD.sz 0 (((y968++[(⟨((x972.1).M),(x972.1).E⟩:AD)])).length)) [(6,(rwK kD 26 (y968++[(⟨((x972.1).M),(x972.1).E⟩:AD)]))),(3,.dead)] (snd_appendK_gr kD _ _ _ _ _ 3 6 y968 [(⟨((x972.1).M),(x972.1).E⟩:AD)] rfl underlying96 ze26 sb26 rfl rfl rfl rfl rfl rfl rfl h755) rfl rfl rfl ?_
        refine .p (sg rfl)<|.nil<|.block<|.seq<|.region<|.p (ar rfl)<|.p (mv rfl)<|.nil<|?_
        refine TQ.weak ?_ (fun a w h=>Conc.gr_row kD h 11 6 26 (y968++[(⟨((x972.1).M),(x972.1).E⟩:AD)]) rfl rfl (by first | omega | (simp only [List.length_append,List.length_cons,List.length_set]; omega) | simp))
        exact TQ.again ((IntKind.i64.wrap (y966+1)),x972.2,(y968++[(⟨((x972.1).M),(x972.1).E⟩:AD)])) (jn (m:=3) [(0,0),(1,1),(2,2),(6,3),(4,4)] hE (.p rfl rfl<|.g rfl (ren_fnL _ .nil (.p rfl<|.p rfl<|.nil))<|.l rfl<|.g rfl (ren_gr (K:=kD) (by rfl) (y968++[(⟨((x972.1).M),(x972.1).E⟩:AD)]))<|.p rfl rfl<|.l rfl<|.i rfl<|.i rfl<|.l rfl<|.i rfl<|.i rfl<|.nil) (.v rfl (.i<|.i<|.nil)<|.v rfl (.p rfl<|.nil)<|.v rfl (.b<|.nil)<|.cons (.refl _) (renV_gr (K:=kD) 26 (y968++[(⟨((x972.1).M),(x972.1).E⟩:AD)]))<|.v rfl (.b<|.l<|.i<|.nil)<|.nil) rfl) rfl
       ·refine .exit<|.seq_exit<|.loop_exit<|.block_exit<|.weak (h725 (y967,y968)) (jn (m:=3) [(0,0),(1,1),(2,2),(3,3)] hE (.p rfl rfl<|.g rfl (ren_fnL _ .nil (.p rfl<|.p rfl<|.nil))<|.l rfl<|.g rfl (ren_gr (K:=kD) (by rfl) y968)<|.l rfl<|.i rfl<|.i rfl<|.nil) (.v rfl (.i<|.i<|.nil)<|.v rfl (.p rfl<|.nil)<|.v rfl (.b<|.nil)<|.cons (.refl _) (renV_gr (K:=kD) 26 y968)<|.nil) rfl)
    ·refine .exit<|.seq_exit<|.loop_exit<|.block_exit<|.weak (h381 (y893,y894)) (jn (m:=3) [(0,0),(1,1),(2,2),(3,3)] hE (.g rfl (ren_gr (K:=kD) (by rfl) y894)<|.nil) (.v rfl (.i<|.i<|.nil)<|.v rfl (.p rfl<|.nil)<|.v rfl (.b<|.nil)<|.cons (.refl _) (renV_gr (K:=kD) 26 y894)<|.nil) rfl)
  ·intro h756
   refine T.cond_p rfl iff_eq (fun h757 h758=>?_) (fun h757 h758=>?_)
   ·refine .region<|.p (mv rfl)<|.guard fun h759=>?_
    refine TR.st 41 (slK kD ([a1.Lo,a1.Hi].take 1)) [] (snd_sliceK kD _ _ _ _ _ _ 0 1 rfl underlying96 si26 rfl rfl rfl rfl rfl h759) rfl rfl rfl ?_
    refine .p (sg rfl)<|.nil<|.weak (h756 ([a1.Lo,a1.Hi].take 1)) (jn (m:=3) [(0,0),(1,1),(2,2)] hE (.p rfl rfl<|.g rfl (ren_fnL _ .nil (.p rfl<|.p rfl<|.nil))<|.l rfl<|.l rfl<|.nil) (.v rfl (.i<|.i<|.nil)<|.v rfl (.p rfl<|.nil)<|.v rfl (.b<|.nil)<|.nil) rfl)
   ·refine .skip<|.weak (h756 [a1.Lo,a1.Hi]) (jn (m:=3) [(0,0),(1,1),(2,2)] hE (.p rfl rfl<|.g rfl (ren_fnL _ .nil (.p rfl<|.p rfl<|.nil))<|.l rfl<|.l rfl<|.nil) (.v rfl (.i<|.i<|.nil)<|.v rfl (.p rfl<|.nil)<|.v rfl (.b<|.nil)<|.nil) rfl)
 ·intro h760
  refine T.cond_p rfl iff_eq (fun h761 h762=>?_) (fun h761 h762=>?_)
  ·refine .region<|.p (mv rfl)<|.guard fun h763=>?_
   refine TR.st 33 (slK kD ([a0.Lo,a0.Hi].take 1)) [] (snd_sliceK kD _ _ _ _ _ _ 0 1 rfl underlying96 si26 rfl rfl rfl rfl rfl h763) rfl rfl rfl ?_
   refine .p (sg rfl)<|.nil<|.weak (h760 ([a0.Lo,a0.Hi].take 1)) (jn (m:=3) [(0,0),(1,1),(2,2),(4,4)] hE (.p rfl rfl<|.g rfl (ren_fnL _ .nil (.p rfl<|.p rfl<|.nil))<|.p rfl rfl<|.l rfl<|.l rfl<|.nil) (.v rfl (.i<|.i<|.nil)<|.v rfl (.p rfl<|.nil)<|.v rfl (.b<|.nil)<|.v rfl (.b<|.l<|.i<|.b<|.l<|.i<|.nil)<|.nil) rfl)
  ·refine .skip<|.weak (h760 [a0.Lo,a0.Hi]) (jn (m:=3) [(0,0),(1,1),(2,2),(4,4)] hE (.p rfl rfl<|.g rfl (ren_fnL _ .nil (.p rfl<|.p rfl<|.nil))<|.p rfl rfl<|.l rfl<|.l rfl<|.nil) (.v rfl (.i<|.i<|.nil)<|.v rfl (.p rfl<|.nil)<|.v rfl (.b<|.nil)<|.v rfl (.b<|.l<|.i<|.b<|.l<|.i<|.nil)<|.nil) rfl)
theorem cv_four_e8e7_k {a0:AI} {a1:AI} {a2:Int} {a3:Int} {a4:Bool} {r:(List AD) × Int} (h:cv_four_e8e7 a0 a1 a2 a3 a4=some r):Cal Tryz.prog 90 [(.ptr 0 0),(.agg (kI.enc a0)),(.agg (kI.enc a1)),(.fn 96 [] [(.ptr 1 0),(.ptr 2 0)])] [(.live 45 [(.int .i64 a2),(.int .i64 a3)]),(.live 28 [(.ptr 0 0)]),(.live 4 [(.bool a4)])] (slK kD r.1) [(.live 45 [(.int .i64 r.2),(.int .i64 a3)]),(.live 28 [(.ptr 0 0)]),(.live 4 [(.bool a4)])]:=⟨⟨_,func90,nm90,rfl⟩,cv_four_e8e7_c a0 a1 a2 a3 a4 _ h⟩
theorem iv_ends_c (a0:List AD):∀ r,iv_ends a0=some r→ACalls Tryz.prog 89 [(slK kD a0)] (lw []) (.tup [(.agg (kD.enc (⟨((r.1).M),(r.1).E⟩:AD))),(.agg (kD.enc (⟨((r.2).M),(r.2).E⟩:AD)))]) (ld []):=by
 unfold iv_ends
 refine go 0 func89 ntmps89 rfl ?_
 intro E hE
 refine .seq<|.region<|.w (al 0 ze26 rfl)<|.w (al 1 ze26 rfl)<|.nil<|.seq<|.seq<|.draw mixed<|.p (mv rfl)<|.guard fun h1=>?_
 refine TD.st 7 (.iptr [(.bool (((a0.getD 0 zAD).M).Neg)),(slK (kInt .u32) (((a0.getD 0 zAD).M).Mag)),(.int .i64 ((a0.getD 0 zAD).E))]) [] (snd_indexK kD _ _ _ _ _ _ 0 rfl underlying96 si26 rfl rfl rfl rfl h1) rfl rfl rfl ?_
 refine .p (lai ag26 rfl)<|.p (mv rfl)<|.guard fun h2=>?_
 refine TD.st 10 (.iptr [(.bool (((a0.getD 0 zAD).M).Neg)),(slK (kInt .u32) (((a0.getD 0 zAD).M).Mag)),(.int .i64 ((a0.getD 0 zAD).E))]) [] (snd_indexK kD _ _ _ _ _ _ 0 rfl underlying96 si26 rfl rfl rfl rfl h2) rfl rfl rfl ?_
 refine .p (lai ag26 rfl)<|.n (sa ag26 rfl)<|.n (sa ag26 rfl)<|.nil (by kernel_rfl)<|.seq<|.seq<|.seq<|.region<|.p (mv rfl)<|.guard fun h3=>?_
 refine TR.st 13 (slK kD ((a0.take a0.length).drop 1)) [] (snd_sliceK kD _ _ _ _ _ _ 1 (a0.length:Int) rfl underlying96 si26 rfl rfl rfl rfl rfl h3) rfl rfl rfl ?_
 refine .p (ln underlying96 rfl)<|.p (mv rfl)<|.nil<|.seq<|?_
 refine T.cut (X:=Bool × (List Int) × Int × Bool × (List Int) × Int) (fun x=>iv_ends_j1 x.1 x.2.1 x.2.2.1 x.2.2.2.1 x.2.2.2.2.1 x.2.2.2.2.2) (fun x=>(mkS [(2,some (.ptr 0 0)),(3,some (.ptr 1 0))] [(0,(.live 26 [(.bool x.1),(slK (kInt .u32) x.2.1),(.int .i64 x.2.2.1)])),(1,(.live 26 [(.bool x.2.2.2.1),(slK (kInt .u32) x.2.2.2.2.1),(.int .i64 x.2.2.2.2.2)]))])) ?_ ?_
 ·rintro ⟨y193,y194,y195,y196,y197,y198⟩
  dsimp only [iv_ends_j1]
  refine .seq<|.seq<|.draw mixed<|.p (la ag26 rfl)<|.p (la ag26 rfl)<|.n (sa ag26 rfl)<|.n (sa ag26 rfl)<|.nil (by kernel_rfl)<|.seq<|.ret<|fin_2 (.inr rfl) (.nil _) results89 (.a ag26 rfl) (.a ag26 rfl) (AVle.refl _)
 ·intro h76
  refine .block<|.loopW (X:=Int × Bool × (List Int) × Int × Bool × (List Int) × Int) (fun n x=>iv_ends_l2 a0 n x.1 x.2.1 x.2.2.1 x.2.2.2.1 x.2.2.2.2.1 x.2.2.2.2.2.1 x.2.2.2.2.2.2) (fun x=>(mkS [(2,some (.ptr 0 0)),(3,some (.ptr 1 0)),(13,some (slK kD ((a0.take a0.length).drop 1))),(14,some (.int .i64 (((a0.take a0.length).drop 1).length:Int))),(15,some (.int .i64 x.1))] [(0,(.live 26 [(.bool x.2.1),(slK (kInt .u32) x.2.2.1),(.int .i64 x.2.2.2.1)])),(1,(.live 26 [(.bool x.2.2.2.2.1),(slK (kInt .u32) x.2.2.2.2.2.1),(.int .i64 x.2.2.2.2.2.2)]))])) (0,((a0.getD 0 zAD).M).Neg,((a0.getD 0 zAD).M).Mag,(a0.getD 0 zAD).E,((a0.getD 0 zAD).M).Neg,((a0.getD 0 zAD).M).Mag,(a0.getD 0 zAD).E) (jn (m:=0) [(0,0),(1,1)] hE (.p rfl rfl<|.p rfl rfl<|.l rfl<|.i rfl<|.i rfl<|.nil) (.v rfl (.b<|.l<|.i<|.nil)<|.v rfl (.b<|.l<|.i<|.nil)<|.nil) rfl) (fun _=>rfl) rfl<|?_
  rintro n2 ⟨y238,y239,y240,y241,y242,y243,y244⟩
  try dsimp only
  rw [iv_ends_l2]
  refine .seq<|.region<|.p (ar rfl)<|.nil<|.seq<|.seq<|?_
  refine T.cond_p rfl iff_dec (fun h125 h126=>?_) (fun h125 h126=>?_)
  ·refine .skip<|.seq<|.seq<|.block<|.seq<|.region<|.guard fun h138=>?_
   refine TR.st 17 (.iptr [(.bool (((((a0.take a0.length).drop 1).getD y238.toNat zAD).M).Neg)),(slK (kInt .u32) (((((a0.take a0.length).drop 1).getD y238.toNat zAD).M).Mag)),(.int .i64 ((((a0.take a0.length).drop 1).getD y238.toNat zAD).E))]) [] (snd_indexK kD _ _ _ _ _ _ y238 rfl underlying96 si26 rfl rfl rfl rfl h138) rfl rfl rfl ?_
   refine .p (lai ag26 rfl)<|.w (al 2 ze26 rfl)<|.n (sa ag26 rfl)<|.nil<|.seq<|.seq<|.seq<|.region<|.p (la ag26 rfl)<|.p (la ag26 rfl)<|.bind fun x253 h139=>.p (c0 (dyad_Cmp_p h139) rfl)<|.p (ar rfl)<|.nil<|?_
   refine .seq<|?_
   refine T.cut (X:=Bool × (List Int) × Int) (fun x=>iv_ends_j3 a0 y238 y242 y243 y244 (fun z0 z1 z2 z3 z4 z5 z6=>iv_ends_l2 a0 n2 z0 z1 z2 z3 z4 z5 z6) x.1 x.2.1 x.2.2) (fun x=>(mkS [(2,some (.ptr 0 0)),(3,some (.ptr 1 0)),(5,some (.ptr 2 0)),(13,some (slK kD ((a0.take a0.length).drop 1))),(14,some (.int .i64 (((a0.take a0.length).drop 1).length:Int))),(15,some (.int .i64 y238))] [(0,(.live 26 [(.bool x.1),(slK (kInt .u32) x.2.1),(.int .i64 x.2.2)])),(1,(.live 26 [(.bool y242),(slK (kInt .u32) y243),(.int .i64 y244)])),(2,(.live 26 [(.bool (((((a0.take a0.length).drop 1).getD y238.toNat zAD).M).Neg)),(slK (kInt .u32) (((((a0.take a0.length).drop 1).getD y238.toNat zAD).M).Mag)),(.int .i64 ((((a0.take a0.length).drop 1).getD y238.toNat zAD).E))]))])) ?_ ?_
   ·rintro ⟨y254,y255,y256⟩
    dsimp only [iv_ends_j3]
    refine .seq<|.seq<|.region<|.p (la ag26 rfl)<|.p (la ag26 rfl)<|.bind fun x257 h142=>.p (c0 (dyad_Cmp_p h142) rfl)<|.p (ar rfl)<|.nil<|.seq<|?_
    refine T.cut (X:=Bool × (List Int) × Int) (fun x=>iv_ends_j4 (fun z0 z1 z2 z3 z4 z5 z6=>iv_ends_l2 a0 n2 z0 z1 z2 z3 z4 z5 z6) y238 y254 y255 y256 x.1 x.2.1 x.2.2) (fun x=>(mkS [(2,some (.ptr 0 0)),(3,some (.ptr 1 0)),(13,some (slK kD ((a0.take a0.length).drop 1))),(14,some (.int .i64 (((a0.take a0.length).drop 1).length:Int))),(15,some (.int .i64 y238))] [(0,(.live 26 [(.bool y254),(slK (kInt .u32) y255),(.int .i64 y256)])),(1,(.live 26 [(.bool x.1),(slK (kInt .u32) x.2.1),(.int .i64 x.2.2)]))])) ?_ ?_
    ·rintro ⟨y258,y259,y260⟩
     dsimp only [iv_ends_j4]
     refine .block<|.seq<|.region<|.p (ar rfl)<|.p (mv rfl)<|.nil<|.again ((IntKind.i64.wrap (y238+1)),y254,y255,y256,y258,y259,y260) (jn (m:=0) [(0,0),(1,1)] hE (.p rfl rfl<|.p rfl rfl<|.l rfl<|.i rfl<|.i rfl<|.nil) (.v rfl (.b<|.l<|.i<|.nil)<|.v rfl (.b<|.l<|.i<|.nil)<|.nil) rfl) rfl
    ·intro h145
     refine T.cond_p rfl iff_dec (fun h146 h147=>?_) (fun h146 h147=>?_)
     ·refine .region<|.p (la ag26 rfl)<|.n (sa ag26 rfl)<|.nil<|.weak (h145 (((((a0.take a0.length).drop 1).getD y238.toNat zAD).M).Neg,((((a0.take a0.length).drop 1).getD y238.toNat zAD).M).Mag,(((a0.take a0.length).drop 1).getD y238.toNat zAD).E)) (jn (m:=0) [(0,0),(1,1)] hE (.p rfl rfl<|.p rfl rfl<|.l rfl<|.i rfl<|.i rfl<|.nil) (.v rfl (.b<|.l<|.i<|.nil)<|.v rfl (.b<|.l<|.i<|.nil)<|.nil) rfl)
     ·refine .skip<|.weak (h145 (y242,y243,y244)) (jn (m:=0) [(0,0),(1,1)] hE (.p rfl rfl<|.p rfl rfl<|.l rfl<|.i rfl<|.i rfl<|.nil) (.v rfl (.b<|.l<|.i<|.nil)<|.v rfl (.b<|.l<|.i<|.nil)<|.nil) rfl)
   ·intro h148
    refine T.cond_p rfl iff_dec (fun h149 h150=>?_) (fun h149 h150=>?_)
    ·refine .region<|.p (la ag26 rfl)<|.n (sa ag26 rfl)<|.nil<|.weak (h148 (((((a0.take a0.length).drop 1).getD y238.toNat zAD).M).Neg,((((a0.take a0.length).drop 1).getD y238.toNat zAD).M).Mag,(((a0.take a0.length).drop 1).getD y238.toNat zAD).E)) (jn (m:=0) [(0,0),(1,1),(2,2)] hE (.p rfl rfl<|.p rfl rfl<|.p rfl rfl<|.l rfl<|.i rfl<|.i rfl<|.nil) (.v rfl (.b<|.l<|.i<|.nil)<|.v rfl (.b<|.l<|.i<|.nil)<|.v rfl (.b<|.l<|.i<|.nil)<|.nil) rfl)
    ·refine .skip<|.weak (h148 (y239,y240,y241)) (jn (m:=0) [(0,0),(1,1),(2,2)] hE (.p rfl rfl<|.p rfl rfl<|.p rfl rfl<|.l rfl<|.i rfl<|.i rfl<|.nil) (.v rfl (.b<|.l<|.i<|.nil)<|.v rfl (.b<|.l<|.i<|.nil)<|.v rfl (.b<|.l<|.i<|.nil)<|.nil) rfl)
  ·refine .exit<|.seq_exit<|.loop_exit<|.block_exit<|.weak (h76 (y239,y240,y241,y242,y243,y244)) (jn (m:=0) [(0,0),(1,1)] hE (.p rfl rfl<|.p rfl rfl<|.nil) (.v rfl (.b<|.l<|.i<|.nil)<|.v rfl (.b<|.l<|.i<|.nil)<|.nil) rfl)
theorem iv_ends_p {a0:List AD} {r:AD × AD} (h:iv_ends a0=some r):Pur Tryz.prog 89 [(slK kD a0)] (.tup [(.agg (kD.enc (⟨((r.1).M),(r.1).E⟩:AD))),(.agg (kD.enc (⟨((r.2).M),(r.2).E⟩:AD)))]):=⟨⟨_,func89,nm89,rfl⟩,iv_ends_c a0 _ h,fun _=>(.l<|.nil),fun _=>(ren_tupL (.a kD<|.a kD<|.nil))⟩
theorem cv_out_c (a0:AD) (a1:AD) (a2:Int) (a3:Int):∀ r,cv_out a0 a1 a2 a3=some r→ACalls Tryz.prog 87 [(.ptr 0 0),(.agg (kD.enc a0)),(.agg (kD.enc a1))] (lw [(.live 45 [(.int .i64 a2),(.int .i64 a3)])]) (.agg (kI.enc (⟨⟨(((r).Lo).M),((r).Lo).E⟩,⟨(((r).Hi).M),((r).Hi).E⟩⟩:AI))) (ld [(.live 45 [(.int .i64 a2),(.int .i64 a3)])]):=by
 unfold cv_out
 refine go 1 func87 ntmps87 rfl ?_
 intro E hE
 refine .seq<|.region<|.w (bx 1 rfl)<|.w (bx 2 rfl)<|.w (al 3 ze34 rfl)<|.nil<|.seq<|.seq<|.seq<|.region<|.p (mv rfl)<|.p (nc rfl)<|.p (fa 0 fl45_0 rfl)<|.p (fa 0 fl43_0 rfl)<|?_
 refine .p (ls sc29 rfl)<|.p (ar rfl)<|.nil<|.seq<|?_
 refine T.cond_p rfl iff_ne (fun h1 h2=>?_) (fun h1 h2=>?_)
 ·refine .seq<|.region<|.p (bd ze34 pl34 rfl)<|.n (sa ag34 rfl)<|.nil<|.seq<|.ret<|.seq_ret<|fin_1 (.inr rfl) (.k rfl (.nil _)) results87 (.a ag34 rfl) (AVle.refl _)
 ·refine .skip<|.seq<|.seq<|.region<|.p (la ag26 rfl)<|.p (la ag26 rfl)<|.p (bd ze34 pl34 rfl)<|.n (sa ag34 rfl)<|.nil<|.seq<|.ret<|fin_1 (.inr rfl) (.k rfl (.nil _)) results87 (.a ag34 rfl) (AVle.refl _)
theorem cv_out_k {a0:AD} {a1:AD} {a2:Int} {a3:Int} {r:AI} (h:cv_out a0 a1 a2 a3=some r):Cal Tryz.prog 87 [(.ptr 0 0),(.agg (kD.enc a0)),(.agg (kD.enc a1))] [(.live 45 [(.int .i64 a2),(.int .i64 a3)])] (.agg (kI.enc (⟨⟨(((r).Lo).M),((r).Lo).E⟩,⟨(((r).Hi).M),((r).Hi).E⟩⟩:AI))) [(.live 45 [(.int .i64 a2),(.int .i64 a3)])]:=⟨⟨_,func87,nm87,rfl⟩,cv_out_c a0 a1 a2 a3 _ h⟩
theorem cv_Div_c (a0:AI) (a1:AI) (a2:Int) (a3:Int):∀ r,cv_Div a0 a1 a2 a3=some r→ACalls Tryz.prog 29 [(.ptr 0 0),(.agg (kI.enc a0)),(.agg (kI.enc a1))] (lw [(.live 45 [(.int .i64 a2),(.int .i64 a3)])]) (.agg (kI.enc (⟨⟨(((r.1).Lo).M),((r.1).Lo).E⟩,⟨(((r.1).Hi).M),((r.1).Hi).E⟩⟩:AI))) (ld [(.live 45 [(.int .i64 r.2),(.int .i64 a3)])]):=by
 unfold cv_Div
 refine go 1 func29 ntmps29 rfl ?_
 intro E hE
 refine .seq<|.region<|.w (bx 1 rfl)<|.w (bx 2 rfl)<|.w (bx 3 rfl)<|.w (al 4 ze34 rfl)<|.nil<|.seq<|.seq<|.seq<|.region<|.p (ls sc28 rfl)<|.p (la ag34 rfl)<|.p (la ag34 rfl)<|?_
 refine TR.st 15 (slK kI [a0,a1]) [] (snd_buildSlice _ _ _ 6 _ _ [(0,(.agg (kI.enc a0))),(1,(.agg (kI.enc a1)))] (List.map kI.enc [a0,a1]) rfl underlying104 ze34 si34 rfl rfl rfl (by decide) (by decide) (by decide) rfl rfl (Kd.even _) rfl) rfl rfl rfl ?_
 refine .bind fun x11 h1=>.w (cl (cv_fine_k h1) [0] [] [true] rfl (.p rfl<|.l<|.nil) (.p rfl (.i<|.i<|.nil) .nil) fnil (.cons (.v (.i<|.i<|.nil)) .nil) (.bool _) (.turned .nil) rfl)<|.p (un rfl)<|.nil<|.seq<|?_
 refine T.cond_p rfl iff_nb (fun h2 h3=>?_) (fun h2 h3=>?_)
 ·refine .seq<|.region<|.p (bd ze34 pl34 rfl)<|.n (sa ag34 rfl)<|.nil<|.seq<|.ret<|.seq_ret<|fin_1 (.inr rfl) (.k rfl (.nil _)) results29 (.a ag34 rfl) (AVle.refl _)
 ·refine .skip<|.seq<|.seq<|.seq<|.region<|.p (la ag34 rfl)<|.p (bd ze26 pl26 rfl)<|.bind fun x12 h4=>.p (c0 (iv_Has_p h4) rfl)<|.nil<|.seq<|?_
  refine T.cond_p rfl iff_b (fun h5 h6=>?_) (fun h5 h6=>?_)
  ·refine .seq<|.region<|.p (ls sc28 rfl)<|.p (nc rfl)<|.p (fa 0 fl45_0 rfl)<|.bind fun x13 h7=>.w (cl (iv_trouble_note_k h7) [0] [] [true] rfl (.p rfl<|.i<|.nil) (.p rfl (.i<|.i<|.nil) .nil) fnil (.cons (.v (.i<|.i<|.nil)) .nil) (.bool _) (.turned .nil) rfl)<|.nil<|.seq<|.seq<|.region<|.p (bd ze34 pl34 rfl)<|.n (sa ag34 rfl)<|.nil<|?_
   refine .seq<|.ret<|.seq_ret<|fin_1 (.inr rfl) (.k rfl (.nil _)) results29 (.a ag34 rfl) (AVle.refl _)
  ·refine .skip<|.seq<|.seq<|.region<|?_
   refine TR.st 27 (.fn 95 [] [(.ptr 1 0)]) [] (snd_makeFunc _ _ _ [] [(.ptr 1 0)] rfl rfl rfl rfl rfl) rfl rfl rfl ?_
   refine .p (sg rfl)<|.nil<|.seq<|.seq<|.draw mixed<|.p (ls sc28 rfl)<|.p (la ag34 rfl)<|.p (la ag34 rfl)<|.p (mv rfl)<|.bind fun x14 h8=>.w (cl (cv_Div_1_k h8) [1,0] [5] [false,false,true] rfl (.b<|.p rfl<|.nil) (.p rfl (.p rfl<|.nil) (.p rfl (.i<|.i<|.nil) .nil)) (fresh_cons rfl fnil) (.cons (.v (.p rfl<|.nil)) (.cons (.v (.i<|.i<|.nil)) (.cons (.v (.b<|.nil)) .nil))) (ren_fnL _ .nil (.p rfl<|.p rfl<|.nil)) (.kept rfl (.kept rfl (.turned .nil))) rfl)<|.bind fun x15 h9=>.w (cl (cv_four_e8e7_k h9) [0,1,5] [] [true,false,false] rfl (.p rfl<|.a kI<|.a kI<|.cons (ren_fnL _ .nil (.p rfl<|.p rfl<|.nil))<|.nil) (.p rfl (.i<|.i<|.nil) (.p rfl (.p rfl<|.nil) (.p rfl (.b<|.nil) .nil))) fnil (.cons (.v (.i<|.i<|.nil)) (.cons (.v (.p rfl<|.nil)) (.cons (.v (.b<|.nil)) .nil))) (ren_sl _) (.turned (.kept rfl (.kept rfl .nil))) rfl)<|.bind fun x16 h10=>?_
   refine .p (c0 (iv_ends_p h10) rfl)<|.p (mv rfl)<|.p (xt rfl)<|.p (xt rfl)<|.w (al 6 ze26 rfl)<|.w (al 7 ze26 rfl)<|.n (sa ag26 rfl)<|.n (sa ag26 rfl)<|.nil (by kernel_rfl)<|.seq<|.seq<|.draw mixed<|.p (ls sc28 rfl)<|.p (la ag34 rfl)<|?_
   refine .p (la ag34 rfl)<|.p (mv rfl)<|.bind fun x17 h11=>.w (cl (cv_Div_1_k h11) [1,0] [8] [false,false,true] rfl (.b<|.p rfl<|.nil) (.p rfl (.p rfl<|.nil) (.p rfl (.i<|.i<|.nil) .nil)) (fresh_cons rfl fnil) (.cons (.v (.p rfl<|.nil)) (.cons (.v (.i<|.i<|.nil)) (.cons (.v (.b<|.nil)) .nil))) (ren_fnL _ .nil (.p rfl<|.p rfl<|.nil)) (.kept rfl (.kept rfl (.turned .nil))) rfl)<|.bind fun x18 h12=>.w (cl (cv_four_e8e7_k h12) [0,1,8] [] [true,false,false] rfl (.p rfl<|.a kI<|.a kI<|.cons (ren_fnL _ .nil (.p rfl<|.p rfl<|.nil))<|.nil) (.p rfl (.i<|.i<|.nil) (.p rfl (.p rfl<|.nil) (.p rfl (.b<|.nil) .nil))) fnil (.cons (.v (.i<|.i<|.nil)) (.cons (.v (.p rfl<|.nil)) (.cons (.v (.b<|.nil)) .nil))) (ren_sl _) (.turned (.kept rfl (.kept rfl .nil))) rfl)<|.bind fun x19 h13=>.p (c0 (iv_ends_p h13) rfl)<|.p (mv rfl)<|.p (xt rfl)<|.p (xt rfl)<|.w (al 9 ze26 rfl)<|.w (al 10 ze26 rfl)<|.n (sa ag26 rfl)<|?_
   refine .n (sa ag26 rfl)<|.nil (by kernel_rfl)<|.seq<|.seq<|.region<|.p (ls sc28 rfl)<|.p (la ag26 rfl)<|.p (la ag26 rfl)<|.bind fun x20 h14=>.p (cl (cv_out_k h14) [0] [] [false] rfl (.p rfl<|.a kD<|.a kD<|.nil) (.p rfl (.i<|.i<|.nil) .nil) fnil (.cons (.v (.i<|.i<|.nil)) .nil) (ren_agg (K:=kI) _) (.kept rfl .nil) rfl)<|.n (sa ag34 rfl)<|.nil<|.seq<|.ret<|fin_1 (.inr rfl) (.k rfl (.nil _)) results29 (.a ag34 rfl) (AVle.refl _)
theorem cv_Div_k {a0:AI} {a1:AI} {a2:Int} {a3:Int} {r:AI × Int} (h:cv_Div a0 a1 a2 a3=some r):Cal Tryz.prog 29 [(.ptr 0 0),(.agg (kI.enc a0)),(.agg (kI.enc a1))] [(.live 45 [(.int .i64 a2),(.int .i64 a3)])] (.agg (kI.enc (⟨⟨(((r.1).Lo).M),((r.1).Lo).E⟩,⟨(((r.1).Hi).M),((r.1).Hi).E⟩⟩:AI))) [(.live 45 [(.int .i64 r.2),(.int .i64 a3)])]:=⟨⟨_,func29,nm29,rfl⟩,cv_Div_c a0 a1 a2 a3 _ h⟩
theorem dyad_Make_c (a0:ApiInt) (a1:Int):∀ r,dyad_Make a0 a1=some r→ACalls Tryz.prog 125 [(.agg (kN.enc a0)),(.int .i64 a1)] (lw []) (.tup [(.agg (kD.enc (⟨((r.1).M),(r.1).E⟩:AD))),(.bool r.2)]) (ld []):=by
 unfold dyad_Make
 refine go 0 func125 ntmps125 rfl ?_
 intro E hE
 refine .seq<|.region<|.w (bx 0 rfl)<|.w (al 1 ze26 rfl)<|.p (sg rfl)<|.nil<|.seq<|.seq<|.seq<|.region<|.p (mv rfl)<|.bind fun x4 h1=>.p (c0 (dyad_within_p h1) rfl)<|.p (un rfl)<|?_
 refine .nil<|.seq<|?_
 refine T.cond_p rfl iff_nb (fun h2 h3=>?_) (fun h2 h3=>?_)
 ·refine .seq<|.region<|.p (bd ze26 pl26 rfl)<|.n (sa ag26 rfl)<|.p (sg rfl)<|.nil<|.seq<|.ret<|.seq_ret<|fin_2 (.inr rfl) (.nil _) results125 (.a ag26 rfl) (.t rfl) (AVle.refl _)
 ·refine .skip<|.seq<|.seq<|.region<|.p (fa 0 fl24_0 rfl)<|.p (ls sc4 rfl)<|.p (fa 1 fl24_1 rfl)<|.p (ls sc22 rfl)<|.p (mv rfl)<|.bind fun x5 h4=>.p (c0 (dyad_norm_p h4) rfl)<|.w (al 2 ze26 rfl)<|.n (sa ag26 rfl)<|.nil<|?_
  refine .seq<|.seq<|.seq<|.region<|.p (la ag26 rfl)<|.bind fun x6 h5=>.p (c0 (dyad_inRange_p h5) rfl)<|.p (un rfl)<|.nil<|.seq<|?_
  refine T.cond_p rfl iff_nb (fun h6 h7=>?_) (fun h6 h7=>?_)
  ·refine .seq<|.region<|.p (bd ze26 pl26 rfl)<|.n (sa ag26 rfl)<|.p (sg rfl)<|.nil<|.seq<|.ret<|.seq_ret<|fin_2 (.inr rfl) (.nil _) results125 (.a ag26 rfl) (.t rfl) (AVle.refl _)
  ·refine .skip<|.seq<|.seq<|.region<|.p (la ag26 rfl)<|.n (sa ag26 rfl)<|.p (sg rfl)<|.nil<|.seq<|.ret<|fin_2 (.inr rfl) (.nil _) results125 (.a ag26 rfl) (.t rfl) (AVle.refl _)
theorem dyad_Make_p {a0:ApiInt} {a1:Int} {r:AD × Bool} (h:dyad_Make a0 a1=some r):Pur Tryz.prog 125 [(.agg (kN.enc a0)),(.int .i64 a1)] (.tup [(.agg (kD.enc (⟨((r.1).M),(r.1).E⟩:AD))),(.bool r.2)]):=⟨⟨_,func125,nm125,rfl⟩,dyad_Make_c a0 a1 _ h,fun _=>(.a kN<|.i<|.nil),fun _=>(ren_tupL (.a kD<|.b<|.nil))⟩
theorem dyad_Half_c (a0:Int):∀ r,dyad_Half a0=some r→ACalls Tryz.prog 71 [(.int .i64 a0)] (lw []) (.agg (kD.enc (⟨((r).M),(r).E⟩:AD))) (ld []):=by
 unfold dyad_Half
 refine go 0 func71 ntmps71 rfl ?_
 intro E hE
 refine .seq<|.region<|.w (al 0 ze26 rfl)<|.nil<|.seq<|.seq<|.region<|.bind fun x3 h1=>.p (c0 (zint_From_p h1) rfl)<|.p (mv rfl)<|.bind fun x4 h2=>.p (c0 (dyad_Make_p h2) rfl)<|.p (mv rfl)<|.p (xt rfl)<|?_
 refine .p (xt rfl)<|.w (al 1 ze26 rfl)<|.n (sa ag26 rfl)<|.p (sg rfl)<|.nil<|.seq<|.seq<|.region<|.p (la ag26 rfl)<|.n (sa ag26 rfl)<|.nil<|.seq<|.ret<|fin_1 (.inr rfl) (.nil _) results71 (.a ag26 rfl) (AVle.refl _)
theorem dyad_Half_p {a0:Int} {r:AD} (h:dyad_Half a0=some r):Pur Tryz.prog 71 [(.int .i64 a0)] (.agg (kD.enc (⟨((r).M),(r).E⟩:AD))):=⟨⟨_,func71,nm71,rfl⟩,dyad_Half_c a0 _ h,fun _=>(.i<|.nil),fun _=>(ren_agg (K:=kD) _)⟩
theorem cv_Neg_c (a0:AI) (a1:Int) (a2:Int):∀ r,cv_Neg a0 a1 a2=some r→ACalls Tryz.prog 33 [(.ptr 0 0),(.agg (kI.enc a0))] (lw [(.live 45 [(.int .i64 a1),(.int .i64 a2)])]) (.agg (kI.enc (⟨⟨(((r.1).Lo).M),((r.1).Lo).E⟩,⟨(((r.1).Hi).M),((r.1).Hi).E⟩⟩:AI))) (ld [(.live 45 [(.int .i64 r.2),(.int .i64 a2)])]):=by
 unfold cv_Neg
 refine go 1 func33 ntmps33 rfl ?_
 intro E hE
 refine .seq<|.region<|.w (bx 1 rfl)<|.w (al 2 ze34 rfl)<|.nil<|.seq<|.seq<|.seq<|.region<|.p (mv rfl)<|.p (la ag34 rfl)<|?_
 refine TR.st 7 (slK kI [a0]) [] (snd_buildSlice _ _ _ 6 _ _ [(0,(.agg (kI.enc a0)))] (List.map kI.enc [a0]) rfl underlying104 ze34 si34 rfl rfl rfl (by decide) (by decide) (by decide) rfl rfl (Kd.even _) rfl) rfl rfl rfl ?_
 refine .bind fun x4 h1=>.w (cl (cv_fine_k h1) [0] [] [true] rfl (.p rfl<|.l<|.nil) (.p rfl (.i<|.i<|.nil) .nil) fnil (.cons (.v (.i<|.i<|.nil)) .nil) (.bool _) (.turned .nil) rfl)<|.p (un rfl)<|.nil<|.seq<|?_
 refine T.cond_p rfl iff_nb (fun h2 h3=>?_) (fun h2 h3=>?_)
 ·refine .seq<|.region<|.p (bd ze34 pl34 rfl)<|.n (sa ag34 rfl)<|.nil<|.seq<|.ret<|.seq_ret<|fin_1 (.inr rfl) (.k rfl (.nil _)) results33 (.a ag34 rfl) (AVle.refl _)
 ·refine .skip<|.seq<|.seq<|.draw mixed<|.p (fa 3 fl34_1 rfl)<|.p (la ag26 rfl)<|.bind fun x5 h4=>.p (c0 (dyad_Neg_p h4) rfl)<|.p (fa 0 fl34_0 rfl)<|.p (la ag26 rfl)<|.bind fun x6 h5=>.p (c0 (dyad_Neg_p h5) rfl)<|.p (bd ze34 pl34 rfl)<|.n (sa ag34 rfl)<|?_
  refine .nil (by kernel_rfl)<|.seq<|.ret<|fin_1 (.inr rfl) (.k rfl (.nil _)) results33 (.a ag34 rfl) (AVle.refl _)
theorem cv_Neg_k {a0:AI} {a1:Int} {a2:Int} {r:AI × Int} (h:cv_Neg a0 a1 a2=some r):Cal Tryz.prog 33 [(.ptr 0 0),(.agg (kI.enc a0))] [(.live 45 [(.int .i64 a1),(.int .i64 a2)])] (.agg (kI.enc (⟨⟨(((r.1).Lo).M),((r.1).Lo).E⟩,⟨(((r.1).Hi).M),((r.1).Hi).E⟩⟩:AI))) [(.live 45 [(.int .i64 r.2),(.int .i64 a2)])]:=⟨⟨_,func33,nm33,rfl⟩,cv_Neg_c a0 a1 a2 _ h⟩
theorem iv_trouble_Err_c (a0:Int) (a1:Int):∀ r,iv_trouble_Err a0 a1=some r→ACalls Tryz.prog 26 [(.ptr 0 0)] (lw [(.live 45 [(.int .i64 a0),(.int .i64 a1)])]) (.int .i64 r) (ld [(.live 45 [(.int .i64 a0),(.int .i64 a1)])]):=by
 unfold iv_trouble_Err
 refine go 1 func26 ntmps26 rfl ?_
 intro E hE
 refine .seq<|.region<|.p (sg rfl)<|.nil<|.seq<|.seq<|.region<|.p (mv rfl)<|.p (nc rfl)<|.p (fa 0 fl43_0 rfl)<|.p (ls sc29 rfl)<|.p (sg rfl)<|.nil<|.seq<|?_
 refine .ret<|fin_1 (.inr rfl) (.k rfl (.nil _)) results26 (.t rfl) (AVle.refl _)
theorem iv_trouble_Err_k {a0:Int} {a1:Int} {r:Int} (h:iv_trouble_Err a0 a1=some r):Cal Tryz.prog 26 [(.ptr 0 0)] [(.live 45 [(.int .i64 a0),(.int .i64 a1)])] (.int .i64 r) [(.live 45 [(.int .i64 a0),(.int .i64 a1)])]:=⟨⟨_,func26,nm26,rfl⟩,iv_trouble_Err_c a0 a1 _ h⟩
theorem iv_In_c (a0:AI) (a1:AI):∀ r,iv_In a0 a1=some r→ACalls Tryz.prog 32 [(.agg (kI.enc a0)),(.agg (kI.enc a1))] (lw []) (.bool r) (ld []):=by
 unfold iv_In
 refine go 0 func32 ntmps32 rfl ?_
 intro E hE
 refine .seq<|.region<|.w (bx 0 rfl)<|.w (bx 1 rfl)<|.p (sg rfl)<|.nil<|.seq<|.seq<|?_
 refine T.cut (X:=Bool) (fun x=>iv_In_j1 x) (fun x=>(mkS [(4,some (.bool x))] [])) ?_ ?_
 ·rintro y11
  dsimp only [iv_In_j1]
  refine .seq<|.ret<|fin_1 (.inr rfl) (.nil _) results32 (.t rfl) (AVle.refl _)
 ·intro h6
  refine .region<|.p (la ag34 rfl)<|.bind fun x12 h7=>.p (c0 (iv_Right_p h7) rfl)<|.p (mv rfl)<|?_
  refine TR.gd 7 _ rfl iff_b (fun h8=>?_) (fun h8=>?_)
  ·refine .p (la ag34 rfl)<|.p (fa 0 fl34_0 rfl)<|.p (la ag26 rfl)<|.bind fun x13 h9=>.p (c0 (iv_Has_p h9) rfl)<|.p (pt rfl)<|.p (mv rfl)<|?_
   refine TR.gd 13 _ rfl iff_b (fun h10=>?_) (fun h10=>?_)
   ·refine .p (la ag34 rfl)<|.p (fa 3 fl34_1 rfl)<|.p (la ag26 rfl)<|.bind fun x14 h11=>.p (c0 (iv_Has_p h11) rfl)<|.p (pt rfl)<|.p (sg rfl)<|.nil<|.weak (h6 x14) (jn (m:=0) [] hE (.b rfl<|.nil) .nil rfl)
   ·refine .k rfl<|.k rfl<|.k rfl<|.k rfl<|.p (pf rfl)<|.p (sg rfl)<|.nil<|.weak (h6 false) (jn (m:=0) [] hE (.b rfl<|.nil) .nil rfl)
  ·refine .k rfl<|.k rfl<|.k rfl<|.k rfl<|.p (pf rfl)<|.p (mv rfl)<|.k rfl<|.k rfl<|.k rfl<|.k rfl<|.p (pf rfl)<|.p (sg rfl)<|.nil<|.weak (h6 false) (jn (m:=0) [] hE (.b rfl<|.nil) .nil rfl)
theorem iv_In_p {a0:AI} {a1:AI} {r:Bool} (h:iv_In a0 a1=some r):Pur Tryz.prog 32 [(.agg (kI.enc a0)),(.agg (kI.enc a1))] (.bool r):=⟨⟨_,func32,nm32,rfl⟩,iv_In_c a0 a1 _ h,fun _=>(.a kI<|.a kI<|.nil),fun _=>(.bool _)⟩
theorem small_in_c (a0:AI) (a1:Int) (a2:Int) (a3:Int):∀ r,small_in a0 a1 a2 a3=some r→ACalls Tryz.prog 104 [(.ptr 0 0),(.agg (kI.enc a0)),(.int .i64 a1)] (lw [(.live 45 [(.int .i64 a2),(.int .i64 a3)])]) (.bool r.1) (ld [(.live 45 [(.int .i64 r.2),(.int .i64 a3)])]):=by
 unfold small_in
 refine go 1 func104 ntmps104 rfl ?_
 intro E hE
 refine .seq<|.region<|.w (bx 1 rfl)<|.p (sg rfl)<|.nil<|.seq<|.seq<|.region<|.p (mv rfl)<|.bind fun x9 h1=>.p (c0 (dyad_Half_p h1) rfl)<|.w (al 2 ze26 rfl)<|.n (sa ag26 rfl)<|.nil<|?_
 refine .seq<|.seq<|.region<|.p (mv rfl)<|.p (la ag34 rfl)<|.bind fun x10 h2=>.w (cl (cv_Neg_k h2) [0] [] [true] rfl (.p rfl<|.a kI<|.nil) (.p rfl (.i<|.i<|.nil) .nil) fnil (.cons (.v (.i<|.i<|.nil)) .nil) (ren_agg (K:=kI) _) (.turned .nil) rfl)<|.nil<|.seq<|.seq<|.seq<|.region<|.p (mv rfl)<|.p (nc rfl)<|?_
 refine .p (fa 0 fl45_0 rfl)<|.bind fun x11 h3=>.p (cl (iv_trouble_Err_k h3) [0] [] [false] rfl (.p rfl<|.nil) (.p rfl (.i<|.i<|.nil) .nil) fnil (.cons (.v (.i<|.i<|.nil)) .nil) (.int _ _) (.kept rfl .nil) rfl)<|.p (ar rfl)<|.nil<|.seq<|?_
 refine T.cond_p rfl iff_ne (fun h4 h5=>?_) (fun h4 h5=>?_)
 ·refine .seq<|.region<|.p (sg rfl)<|.nil<|.seq<|.ret<|.seq_ret<|fin_1 (.inr rfl) (.k rfl (.nil _)) results104 (.t rfl) (AVle.refl _)
 ·refine .skip<|.seq<|.seq<|.seq<|.draw mixed<|.p (la ag34 rfl)<|.p (la ag26 rfl)<|.bind fun x12 h6=>.p (c0 (dyad_Neg_p h6) rfl)<|.p (la ag26 rfl)<|.p (bd ze34 pl34 rfl)<|.bind fun x13 h7=>.p (c0 (iv_In_p h7) rfl)<|.nil (by kernel_rfl)<|?_
  refine .seq<|?_
  refine T.cond_p rfl iff_b (fun h8 h9=>?_) (fun h8 h9=>?_)
  ·refine .seq<|.region<|.p (sg rfl)<|.nil<|.seq<|.ret<|.seq_ret<|fin_1 (.inr rfl) (.k rfl (.nil _)) results104 (.t rfl) (AVle.refl _)
  ·refine .skip<|.seq<|.seq<|.region<|.p (mv rfl)<|.p (mv rfl)<|.bind fun x14 h10=>.w (cl (cv_Int_k h10) [0] [] [true] rfl (.p rfl<|.i<|.nil) (.p rfl (.i<|.i<|.nil) .nil) fnil (.cons (.v (.i<|.i<|.nil)) .nil) (ren_agg (K:=kI) _) (.turned .nil) rfl)<|.p (mv rfl)<|.bind fun x15 h11=>.w (cl (cv_Int_k h11) [0] [] [true] rfl (.p rfl<|.i<|.nil) (.p rfl (.i<|.i<|.nil) .nil) fnil (.cons (.v (.i<|.i<|.nil)) .nil) (ren_agg (K:=kI) _) (.turned .nil) rfl)<|.bind fun x16 h12=>.w (cl (cv_Div_k h12) [0] [] [true] rfl (.p rfl<|.a kI<|.a kI<|.nil) (.p rfl (.i<|.i<|.nil) .nil) fnil (.cons (.v (.i<|.i<|.nil)) .nil) (ren_agg (K:=kI) _) (.turned .nil) rfl)<|.nil<|?_
   refine .seq<|.seq<|.region<|.p (sg rfl)<|.nil<|.seq<|.ret<|fin_1 (.inr rfl) (.k rfl (.nil _)) results104 (.t rfl) (AVle.refl _)
theorem small_in_k {a0:AI} {a1:Int} {a2:Int} {a3:Int} {r:Bool × Int} (h:small_in a0 a1 a2 a3=some r):Cal Tryz.prog 104 [(.ptr 0 0),(.agg (kI.enc a0)),(.int .i64 a1)] [(.live 45 [(.int .i64 a2),(.int .i64 a3)])] (.bool r.1) [(.live 45 [(.int .i64 r.2),(.int .i64 a3)])]:=⟨⟨_,func104,nm104,rfl⟩,small_in_c a0 a1 a2 a3 _ h⟩
theorem nat_Mul_c (a0:List Int) (a1:List Int):∀ r,nat_Mul a0 a1=some r→ACalls Tryz.prog 81 [(slK (kInt .u32) a0),(slK (kInt .u32) a1)] (lw []) (slK (kInt .u32) r) (ld []):=by
 unfold nat_Mul
 refine go 0 func81 ntmps81 rfl ?_
 intro E hE
 refine .seq<|.region<|?_
 refine TR.st 4 (slK (kInt .u32) []) [] (Snd.le (snd_assign _ _ rfl rfl rfl rfl) AVle.nil) rfl rfl rfl ?_
 refine .nil<|.seq<|.seq<|.region<|.p (mv rfl)<|.bind fun x187 h1=>.p (c0 (nat_trim_p h1) rfl)<|.p (mv rfl)<|.bind fun x188 h2=>.p (c0 (nat_trim_p h2) rfl)<|.p (sg rfl)<|.p (sg rfl)<|.nil<|.seq<|?_
 refine .seq<|.region<|.p (mv rfl)<|.p (ln underlying22 rfl)<|.p (mv rfl)<|.p (ln underlying22 rfl)<|.p (ar rfl)<|.guard fun h3=>?_
 refine TR.st 21 (.row 0 (kInt .u32).sz 0 (((List.replicate ((IntKind.i64.wrap ((x187.length:Int)+(x188.length:Int))).toNat) (kInt .u32).z)).length)) [(0,(rwK (kInt .u32) 77 (List.replicate ((IntKind.i64.wrap ((x187.length:Int)+(x188.length:Int))).toNat) (kInt .u32).z)))] (snd_makeK (kInt .u32) _ _ _ _ _ 0 _ _ _ rfl underlying22 ze77 sb77 (by decide) rfl rfl rfl rfl rfl h3) rfl rfl rfl ?_
 refine .p (sg rfl)<|.nil<|.seq<|.seq<|.seq<|.region<|.p (mv rfl)<|.p (ln underlying22 rfl)<|.p (mv rfl)<|.nil<|.seq<|?_
 refine T.cut (X:=(List Int)) (fun x=>nat_Mul_j1 x) (fun x=>(mkS [(5,some (.row 0 (kInt .u32).sz 0 ((x).length)))] [(0,(rwK (kInt .u32) 77 x))])) ?_ ?_
 ·rintro y280
  dsimp only [nat_Mul_j1]
  refine .seq<|.seq<|?_
  refine T.weak ?_ (fun a w h=>Conc.freezeK (kInt .u32) h 5 0 0 ((y280).length) 77 y280 rfl rfl (by omega))
  refine T.weak ?_ (fun a w h=>take_all h)
  refine .region<|.p (mv rfl)<|.bind fun x281 h310=>.p (c0 (nat_trim_p h310) rfl)<|.p (sg rfl)<|.nil<|.seq<|.ret<|fin_1 (.inr rfl) (.nil _) results81 (.t rfl) (AVle.refl _)
 ·intro h311
  refine .block<|.loopW (X:=Int × (List Int)) (fun n x=>nat_Mul_l2 x187 x188 n x.1 x.2) (fun x=>(mkS [(1,some (slK (kInt .u32) x188)),(5,some (.row 0 (kInt .u32).sz 0 ((x.2).length))),(22,some (slK (kInt .u32) x187)),(23,some (.int .i64 (x187.length:Int))),(24,some (.int .i64 x.1))] [(0,(rwK (kInt .u32) 77 x.2))])) (0,(List.replicate ((IntKind.i64.wrap ((x187.length:Int)+(x188.length:Int))).toNat) (kInt .u32).z)) (jn (m:=0) [(0,0)] hE (.l rfl<|.g rfl (.row _ _ _ _ _ rfl)<|.l rfl<|.i rfl<|.i rfl<|.nil) (.cons (.refl _) (renV_rw _ _)<|.nil) rfl) (fun _=>rfl) rfl<|?_
  rintro n2 ⟨y342,y343⟩
  try dsimp only
  rw [nat_Mul_l2]
  refine .seq<|.region<|.p (ar rfl)<|.nil<|.seq<|.seq<|?_
  refine T.cond_p rfl iff_dec (fun h516 h517=>?_) (fun h516 h517=>?_)
  ·refine .skip<|.seq<|.seq<|?_
   refine T.cut (X:=(List Int)) (fun x=>nat_Mul_j3 (fun z0 z1=>nat_Mul_l2 x187 x188 n2 z0 z1) y342 x) (fun x=>(mkS [(1,some (slK (kInt .u32) x188)),(5,some (.row 0 (kInt .u32).sz 0 ((x).length))),(22,some (slK (kInt .u32) x187)),(23,some (.int .i64 (x187.length:Int))),(24,some (.int .i64 y342))] [(0,(rwK (kInt .u32) 77 x))])) ?_ ?_
   ·rintro y358
    dsimp only [nat_Mul_j3]
    refine .seq<|.region<|.p (ar rfl)<|.p (mv rfl)<|.nil<|.again ((IntKind.i64.wrap (y342+1)),y358) (jn (m:=0) [(0,0)] hE (.l rfl<|.g rfl (.row _ _ _ _ _ rfl)<|.l rfl<|.i rfl<|.i rfl<|.nil) (.cons (.refl _) (renV_rw _ _)<|.nil) rfl) rfl
   ·intro h568
    refine .block<|.seq<|.region<|.p (mv rfl)<|.guard fun h569=>?_
    refine TR.st 27 (.iptr [(.int .u32 (x187.getD y342.toNat (kInt .u32).z))]) [] (snd_indexK (kInt .u32) _ _ _ _ _ _ y342 rfl underlying22 si77 rfl rfl rfl rfl h569) rfl rfl rfl ?_
    refine .p (lsi sc77 rfl)<|.p (sg rfl)<|.p (sg rfl)<|.nil<|.seq<|.seq<|.region<|.p (sg rfl)<|.nil<|.seq<|.seq<|.seq<|.region<|.p (mv rfl)<|?_
    refine .p (ln underlying22 rfl)<|.p (mv rfl)<|.nil<|.seq<|?_
    refine T.cut (X:=Int × (List Int)) (fun x=>nat_Mul_j4 y342 x188 (fun z0 z1=>nat_Mul_l2 x187 x188 n2 z0 z1) x.1 x.2) (fun x=>(mkS [(1,some (slK (kInt .u32) x188)),(5,some (.row 0 (kInt .u32).sz 0 ((x.2).length))),(6,some (.int .i64 y342)),(8,some (.int .u64 x.1)),(22,some (slK (kInt .u32) x187)),(23,some (.int .i64 (x187.length:Int))),(24,some (.int .i64 y342))] [(0,(rwK (kInt .u32) 77 x.2))])) ?_ ?_
    ·rintro ⟨y365,y366⟩
     dsimp only [nat_Mul_j4]
     refine .seq<|.region<|.p (mv rfl)<|.p (mv rfl)<|.p (mv rfl)<|.p (ln underlying22 rfl)<|.p (ar rfl)<|.p (mv rfl)<|.p (cv underlying117 underlying77 rfl)<|.guard fun h594=>?_
     obtain ⟨h5941,h5942⟩:=h594
     refine TR.st 68 (.rptr 0 (kInt .u32).sz ((IntKind.i64.wrap (y342+(x188.length:Int))).toNat) 0) [] (idx_r (snd_index_r _ _ _ _ _ 0 0 ((y366).length) _ (IntKind.i64.wrap (y342+(x188.length:Int))) rfl underlying22 si77 rfl rfl rfl rfl h5941 (by omega)) (Nat.zero_add _)) rfl rfl rfl ?_
     refine TR.sn [(0,(rwK (kInt .u32) 77 ((y366).set ((IntKind.i64.wrap (y342+(x188.length:Int))).toNat) (IntKind.u32.wrap y365))))] (snd_storeK_sca (kInt .u32) _ _ _ 0 ((IntKind.i64.wrap (y342+(x188.length:Int))).toNat) _ _ (IntKind.u32.wrap y365) _ rfl rfl rfl sc77 rfl rfl rfl rfl rfl rfl (by first | omega | (simp only [List.length_set]; omega))) rfl rfl ?_
     refine TR.weak ?_ (fun a w h=>Conc.relen h 5 ((((y366).set ((IntKind.i64.wrap (y342+(x188.length:Int))).toNat) (IntKind.u32.wrap y365))).length) rfl List.length_set.symm)
     refine .nil<|.block<|.weak (h568 ((y366).set ((IntKind.i64.wrap (y342+(x188.length:Int))).toNat) (IntKind.u32.wrap y365))) (jn (m:=0) [(0,0)] hE (.l rfl<|.g rfl (.row _ _ _ _ _ rfl)<|.l rfl<|.i rfl<|.i rfl<|.nil) (.cons (.refl _) (renV_rw _ _)<|.nil) rfl)
    ·intro h595
     refine .block<|.loopW (X:=Int × Int × (List Int)) (fun n x=>nat_Mul_l5 x188 y342 x187 (fun z0 z1=>nat_Mul_l2 x187 x188 n2 z0 z1) n x.1 x.2.1 x.2.2) (fun x=>(mkS [(1,some (slK (kInt .u32) x188)),(5,some (.row 0 (kInt .u32).sz 0 ((x.2.2).length))),(6,some (.int .i64 y342)),(7,some (.int .u32 (x187.getD y342.toNat (kInt .u32).z))),(8,some (.int .u64 x.1)),(22,some (slK (kInt .u32) x187)),(23,some (.int .i64 (x187.length:Int))),(24,some (.int .i64 y342)),(29,some (slK (kInt .u32) x188)),(30,some (.int .i64 (x188.length:Int))),(31,some (.int .i64 x.2.1))] [(0,(rwK (kInt .u32) 77 x.2.2))])) (0,0,y343) (jn (m:=0) [(0,0)] hE (.l rfl<|.g rfl (.row _ _ _ _ _ rfl)<|.i rfl<|.i rfl<|.i rfl<|.l rfl<|.i rfl<|.i rfl<|.l rfl<|.i rfl<|.i rfl<|.nil) (.cons (.refl _) (renV_rw _ _)<|.nil) rfl) (fun _=>rfl) rfl<|?_
     rintro n5 ⟨y370,y371,y372⟩
     try dsimp only
     rw [nat_Mul_l5]
     refine .seq<|.region<|.p (ar rfl)<|.nil<|.seq<|.seq<|?_
     refine T.cond_p rfl iff_dec (fun h612 h613=>?_) (fun h612 h613=>?_)
     ·refine .skip<|.seq<|.seq<|.block<|.seq<|.region<|.p (mv rfl)<|.guard fun h617=>?_
      refine TR.st 34 (.iptr [(.int .u32 (x188.getD y371.toNat (kInt .u32).z))]) [] (snd_indexK (kInt .u32) _ _ _ _ _ _ y371 rfl underlying22 si77 rfl rfl rfl rfl h617) rfl rfl rfl ?_
      refine .p (lsi sc77 rfl)<|.p (sg rfl)<|.p (sg rfl)<|.nil<|.seq<|.seq<|.region<|.p (mv rfl)<|.p (cv underlying77 underlying117 rfl)<|.p (mv rfl)<|.p (cv underlying77 underlying117 rfl)<|.p (ar rfl)<|.p (mv rfl)<|.p (mv rfl)<|?_
      refine .p (mv rfl)<|.p (ar rfl)<|.guard fun h618=>?_
      obtain ⟨h6181,h6182⟩:=h618
      refine TR.st 45 (.rptr 0 (kInt .u32).sz ((IntKind.i64.wrap (y342+y371)).toNat) 0) [] (idx_r (snd_index_r _ _ _ _ _ 0 0 ((y372).length) _ (IntKind.i64.wrap (y342+y371)) rfl underlying22 si77 rfl rfl rfl rfl h6181 (by omega)) (Nat.zero_add _)) rfl rfl rfl ?_
      refine TR.st 46 (.int .u32 ((y372).getD ((IntKind.i64.wrap (y342+y371)).toNat) (kInt .u32).z)) [] (snd_loadK_sca (kInt .u32) _ _ 0 ((IntKind.i64.wrap (y342+y371)).toNat) 0 _ _ rfl sc77 rfl rfl rfl rfl (by first | omega | (simp only [List.length_set]; omega)) (by decide)) rfl rfl rfl ?_
      refine .p (cv underlying77 underlying117 rfl)<|.p (ar rfl)<|.p (mv rfl)<|.p (ar rfl)<|.p (sg rfl)<|.nil<|.seq<|.region<|.p (mv rfl)<|.p (mv rfl)<|.p (mv rfl)<|.p (ar rfl)<|.p (mv rfl)<|.p (cv underlying117 underlying77 rfl)<|?_
      refine .p (mv rfl)<|?_
      refine TR.st 58 (.int .u64 (shrI .u64 (IntKind.u64.wrap ((IntKind.u64.wrap ((IntKind.u64.wrap ((IntKind.u64.wrap (x187.getD y342.toNat (kInt .u32).z))*(IntKind.u64.wrap (x188.getD y371.toNat (kInt .u32).z))))+(IntKind.u64.wrap ((y372).getD ((IntKind.i64.wrap (y342+y371)).toNat) (kInt .u32).z))))+y370)) 32)) [] (snd_shr _ _ _ _ _ _ _ _ rfl rfl rfl rfl rfl (by decide)) rfl rfl rfl ?_
      refine .guard fun h619=>?_
      obtain ⟨h6191,h6192⟩:=h619
      refine TR.st 59 (.rptr 0 (kInt .u32).sz ((IntKind.i64.wrap (y342+y371)).toNat) 0) [] (idx_r (snd_index_r _ _ _ _ _ 0 0 ((y372).length) _ (IntKind.i64.wrap (y342+y371)) rfl underlying22 si77 rfl rfl rfl rfl h6191 (by omega)) (Nat.zero_add _)) rfl rfl rfl ?_
      refine TR.sn [(0,(rwK (kInt .u32) 77 ((y372).set ((IntKind.i64.wrap (y342+y371)).toNat) (IntKind.u32.wrap (IntKind.u64.wrap ((IntKind.u64.wrap ((IntKind.u64.wrap ((IntKind.u64.wrap (x187.getD y342.toNat (kInt .u32).z))*(IntKind.u64.wrap (x188.getD y371.toNat (kInt .u32).z))))+(IntKind.u64.wrap ((y372).getD ((IntKind.i64.wrap (y342+y371)).toNat) (kInt .u32).z))))+y370))))))] (snd_storeK_sca (kInt .u32) _ _ _ 0 ((IntKind.i64.wrap (y342+y371)).toNat) _ _ (IntKind.u32.wrap (IntKind.u64.wrap ((IntKind.u64.wrap ((IntKind.u64.wrap ((IntKind.u64.wrap (x187.getD y342.toNat (kInt .u32).z))*(IntKind.u64.wrap (x188.getD y371.toNat (kInt .u32).z))))+(IntKind.u64.wrap ((y372).getD ((IntKind.i64.wrap (y342+y371)).toNat) (kInt .u32).z))))+y370))) _ rfl rfl rfl sc77 rfl rfl rfl rfl rfl rfl (by first | omega | (simp only [List.length_set]; omega))) rfl rfl ?_
      refine TR.weak ?_ (fun a w h=>Conc.relen h 5 ((((y372).set ((IntKind.i64.wrap (y342+y371)).toNat) (IntKind.u32.wrap (IntKind.u64.wrap ((IntKind.u64.wrap ((IntKind.u64.wrap ((IntKind.u64.wrap (x187.getD y342.toNat (kInt .u32).z))*(IntKind.u64.wrap (x188.getD y371.toNat (kInt .u32).z))))+(IntKind.u64.wrap ((y372).getD ((IntKind.i64.wrap (y342+y371)).toNat) (kInt .u32).z))))+y370))))).length) rfl List.length_set.symm)
      refine .p (sg rfl)<|.nil<|.block<|.seq<|.region<|.p (ar rfl)<|.p (mv rfl)<|.nil<|.again ((shrI .u64 (IntKind.u64.wrap ((IntKind.u64.wrap ((IntKind.u64.wrap ((IntKind.u64.wrap (x187.getD y342.toNat (kInt .u32).z))*(IntKind.u64.wrap (x188.getD y371.toNat (kInt .u32).z))))+(IntKind.u64.wrap ((y372).getD ((IntKind.i64.wrap (y342+y371)).toNat) (kInt .u32).z))))+y370)) 32),(IntKind.i64.wrap (y371+1)),((y372).set ((IntKind.i64.wrap (y342+y371)).toNat) (IntKind.u32.wrap (IntKind.u64.wrap ((IntKind.u64.wrap ((IntKind.u64.wrap ((IntKind.u64.wrap (x187.getD y342.toNat (kInt .u32).z))*(IntKind.u64.wrap (x188.getD y371.toNat (kInt .u32).z))))+(IntKind.u64.wrap ((y372).getD ((IntKind.i64.wrap (y342+y371)).toNat) (kInt .u32).z))))+y370))))) (jn (m:=0) [(0,0)] hE (.l rfl<|.g rfl (.row _ _ _ _ _ rfl)<|.i rfl<|.i rfl<|.i rfl<|.l rfl<|.i rfl<|.i rfl<|.l rfl<|.i rfl<|.i rfl<|.nil) (.cons (.refl _) (renV_rw _ _)<|.nil) rfl) rfl
     ·refine .exit<|.seq_exit<|.loop_exit<|.block_exit<|.weak (h595 (y370,y372)) (jn (m:=0) [(0,0)] hE (.l rfl<|.g rfl (.row _ _ _ _ _ rfl)<|.i rfl<|.i rfl<|.l rfl<|.i rfl<|.i rfl<|.nil) (.cons (.refl _) (renV_rw _ _)<|.nil) rfl)
  ·refine .exit<|.seq_exit<|.loop_exit<|.block_exit<|.weak (h311 y343) (jn (m:=0) [(0,0)] hE (.g rfl (.row _ _ _ _ _ rfl)<|.nil) (.cons (.refl _) (renV_rw _ _)<|.nil) rfl)
theorem nat_Mul_p {a0:List Int} {a1:List Int} {r:(List Int)} (h:nat_Mul a0 a1=some r):Pur Tryz.prog 81 [(slK (kInt .u32) a0),(slK (kInt .u32) a1)] (slK (kInt .u32) r):=⟨⟨_,func81,nm81,rfl⟩,nat_Mul_c a0 a1 _ h,fun _=>(.l<|.l<|.nil),fun _=>(ren_sl _)⟩
theorem dyad_Mul_c (a0:AD) (a1:AD):∀ r,dyad_Mul a0 a1=some r→ACalls Tryz.prog 21 [(.agg (kD.enc a0)),(.agg (kD.enc a1))] (lw []) (.tup [(.agg (kD.enc (⟨((r.1).M),(r.1).E⟩:AD))),(.int .i64 r.2)]) (ld []):=by
 unfold dyad_Mul
 refine go 0 func21 ntmps21 rfl ?_
 intro E hE
 refine .seq<|.region<|.w (bx 0 rfl)<|.w (bx 1 rfl)<|.w (al 2 ze26 rfl)<|.p (sg rfl)<|.nil<|.seq<|.seq<|.region<|.p (bd ze85 pl85 rfl)<|.w (bx 3 rfl)<|.p (sg rfl)<|.nil<|?_
 refine .seq<|.seq<|.seq<|.region<|.p (mv rfl)<|.p (la ag26 rfl)<|.p (la ag26 rfl)<|?_
 refine TR.st 12 (slK kD [a0,a1]) [] (snd_buildSlice _ _ _ 3 _ _ [(0,(.agg (kD.enc a0))),(1,(.agg (kD.enc a1)))] (List.map kD.enc [a0,a1]) rfl underlying96 ze26 si26 rfl rfl rfl (by decide) (by decide) (by decide) rfl rfl (Kd.even _) rfl) rfl rfl rfl ?_
 refine .bind fun x10 h1=>.w (cl (dw_right_k h1) [3] [] [true] rfl (.p rfl<|.l<|.nil) (.p rfl (.i<|.b<|.l<|.i<|.nil) .nil) fnil (.cons (.v (.i<|.b<|.l<|.i<|.nil)) .nil) (.bool _) (.turned .nil) rfl)<|.nil<|.seq<|?_
 refine T.cut (X:=Bool × (List Int) × Int) (fun x=>dyad_Mul_j1 x10 x.1 x.2.1 x.2.2) (fun x=>(mkS [(4,some (.ptr 2 0)),(6,some (.ptr 3 0))] [(2,(.live 26 [(.bool false),(slK (kInt .u32) []),(.int .i64 0)])),(3,(.live 85 [(.int .i64 x10.2),(.bool x.1),(slK (kInt .u32) x.2.1),(.int .i64 x.2.2)]))])) ?_ ?_
 ·rintro ⟨y13,y14,y15⟩
  dsimp only [dyad_Mul_j1]
  refine .seq<|.seq<|.region<|.p (mv rfl)<|.bind fun x16 h6=>.w (cl (dw_told_k h6) [3] [] [true] rfl (.p rfl<|.nil) (.p rfl (.i<|.b<|.l<|.i<|.nil) .nil) fnil (.cons (.v (.i<|.b<|.l<|.i<|.nil)) .nil) (ren_tupL (.a kD<|.i<|.nil)) (.turned .nil) rfl)<|.p (xt rfl)<|.p (xt rfl)<|.n (sa ag26 rfl)<|.p (sg rfl)<|.nil<|.seq<|.ret<|fin_2 (.inr rfl) (.nil _) results21 (.a ag26 rfl) (.t rfl) (AVle.refl _)
 ·intro h7
  refine T.cond_p rfl iff_b (fun h8 h9=>?_) (fun h8 h9=>?_)
  ·refine .draw mixed<|.p (mv rfl)<|.p (fa 0 fl26_0 rfl)<|.p (fa 0 fl24_0 rfl)<|.p (ls sc4 rfl)<|.p (fa 0 fl26_0 rfl)<|.p (fa 0 fl24_0 rfl)<|.p (ls sc4 rfl)<|?_
   refine TD.st 21 (.bool (a0.M.Neg != a1.M.Neg)) [] (snd_bool_neq _ _ _ _ _ _ rfl underlying4 rfl rfl rfl rfl) rfl rfl rfl ?_
   refine .p (fa 0 fl26_0 rfl)<|.p (fa 1 fl24_1 rfl)<|.p (ls sc22 rfl)<|.p (fa 0 fl26_0 rfl)<|.p (fa 1 fl24_1 rfl)<|.p (ls sc22 rfl)<|.bind fun x17 h10=>.p (c0 (nat_Mul_p h10) rfl)<|.p (fa 2 fl26_1 rfl)<|.p (ls sc3 rfl)<|.p (fa 2 fl26_1 rfl)<|.p (ls sc3 rfl)<|.p (ar rfl)<|.bind fun x18 h11=>?_
   refine .p (c0 (dyad_norm_p h11) rfl)<|.p (nc rfl)<|.p (fa 1 fl85_1 rfl)<|.n (sa ag26 rfl)<|.nil (by kernel_rfl)<|.weak (h7 (((x18).M).Neg,((x18).M).Mag,(x18).E)) (jn (m:=0) [(2,2),(3,3)] hE (.p rfl rfl<|.p rfl rfl<|.nil) (.v rfl (.b<|.l<|.i<|.nil)<|.v rfl (.i<|.b<|.l<|.i<|.nil)<|.nil) rfl)
  ·refine .skip<|.weak (h7 (false,[],0)) (jn (m:=0) [(2,2),(3,3)] hE (.p rfl rfl<|.p rfl rfl<|.nil) (.v rfl (.b<|.l<|.i<|.nil)<|.v rfl (.i<|.b<|.l<|.i<|.nil)<|.nil) rfl)
theorem dyad_Mul_p {a0:AD} {a1:AD} {r:AD × Int} (h:dyad_Mul a0 a1=some r):Pur Tryz.prog 21 [(.agg (kD.enc a0)),(.agg (kD.enc a1))] (.tup [(.agg (kD.enc (⟨((r.1).M),(r.1).E⟩:AD))),(.int .i64 r.2)]):=⟨⟨_,func21,nm21,rfl⟩,dyad_Mul_c a0 a1 _ h,fun _=>(.a kD<|.a kD<|.nil),fun _=>(ren_tupL (.a kD<|.i<|.nil))⟩
theorem cv_four_6ec2_c (a0:AI) (a1:AI) (a2:Int) (a3:Int):∀ r,cv_four_6ec2 a0 a1 a2 a3=some r→ACalls Tryz.prog 90 [(.ptr 0 0),(.agg (kI.enc a0)),(.agg (kI.enc a1)),(.fn 21 [] [])] (lw [(.live 45 [(.int .i64 a2),(.int .i64 a3)])]) (slK kD r.1) (ld [(.live 45 [(.int .i64 r.2),(.int .i64 a3)])]):=by
 unfold cv_four_6ec2
 refine go 1 func90 ntmps90 rfl ?_
 intro E hE
 refine .seq<|.region<|.w (bx 1 rfl)<|.w (bx 2 rfl)<|.p (sg rfl)<|.nil<|.seq<|.seq<|.draw mixed<|.p (fa 0 fl34_0 rfl)<|.p (la ag26 rfl)<|.p (fa 3 fl34_1 rfl)<|.p (la ag26 rfl)<|?_
 refine TD.st 20 (slK kD [a0.Lo,a0.Hi]) [] (snd_buildSlice _ _ _ 3 _ _ [(0,(.agg (kD.enc a0.Lo))),(1,(.agg (kD.enc a0.Hi)))] (List.map kD.enc [a0.Lo,a0.Hi]) rfl underlying96 ze26 si26 rfl rfl rfl (by decide) (by decide) (by decide) rfl rfl (Kd.even _) rfl) rfl rfl rfl ?_
 refine .p (fa 0 fl34_0 rfl)<|.p (la ag26 rfl)<|.p (fa 3 fl34_1 rfl)<|.p (la ag26 rfl)<|?_
 refine TD.st 25 (slK kD [a1.Lo,a1.Hi]) [] (snd_buildSlice _ _ _ 3 _ _ [(0,(.agg (kD.enc a1.Lo))),(1,(.agg (kD.enc a1.Hi)))] (List.map kD.enc [a1.Lo,a1.Hi]) rfl underlying96 ze26 si26 rfl rfl rfl (by decide) (by decide) (by decide) rfl rfl (Kd.even _) rfl) rfl rfl rfl ?_
 refine .p (sg rfl)<|.p (sg rfl)<|.nil (by kernel_rfl)<|.seq<|.seq<|.seq<|.region<|.p (fa 0 fl34_0 rfl)<|.p (la ag26 rfl)<|.p (fa 3 fl34_1 rfl)<|.p (la ag26 rfl)<|.bind fun x487 h1=>.p (c0 (dyad_Cmp_p h1) rfl)<|.p (ar rfl)<|?_
 refine .nil<|.seq<|?_
 refine T.cut (X:=(List AD)) (fun x=>cv_four_6ec2_j1 a1 a3 a2 x) (fun x=>(mkS [(0,some (.ptr 0 0)),(3,some (.fn 21 [] [])),(6,some (.ptr 2 0)),(9,some (slK kD x)),(10,some (slK kD [a1.Lo,a1.Hi]))] [(0,(.live 45 [(.int .i64 a2),(.int .i64 a3)])),(2,(.live 34 [(.bool a1.Lo.M.Neg),(slK (kInt .u32) a1.Lo.M.Mag),(.int .i64 a1.Lo.E),(.bool a1.Hi.M.Neg),(slK (kInt .u32) a1.Hi.M.Mag),(.int .i64 a1.Hi.E)]))])) ?_ ?_
 ·rintro y488
  dsimp only [cv_four_6ec2_j1]
  refine .seq<|.seq<|.seq<|.region<|.p (fa 0 fl34_0 rfl)<|.p (la ag26 rfl)<|.p (fa 3 fl34_1 rfl)<|.p (la ag26 rfl)<|.bind fun x489 h5=>.p (c0 (dyad_Cmp_p h5) rfl)<|.p (ar rfl)<|.nil<|.seq<|?_
  refine T.cut (X:=(List AD)) (fun x=>cv_four_6ec2_j2 y488 a3 a2 x) (fun x=>(mkS [(0,some (.ptr 0 0)),(3,some (.fn 21 [] [])),(9,some (slK kD y488)),(10,some (slK kD x))] [(0,(.live 45 [(.int .i64 a2),(.int .i64 a3)]))])) ?_ ?_
  ·rintro y490
   dsimp only [cv_four_6ec2_j2]
   refine .seq<|.seq<|.region<|.p (sg rfl)<|.nil<|.seq<|.seq<|.seq<|.region<|.p (mv rfl)<|.p (ln underlying96 rfl)<|.p (mv rfl)<|.nil<|.seq<|?_
   refine T.cut (X:=Int × (List AD)) (fun x=>cv_four_6ec2_j3 x.1 x.2) (fun x=>(mkS [(11,some (grA kD 1 x.2))] [(0,(.live 45 [(.int .i64 x.1),(.int .i64 a3)])),(1,(grV kD 26 x.2))])) ?_ ?_
   ·rintro ⟨y731,y732⟩
    dsimp only [cv_four_6ec2_j3]
    refine .seq<|.seq<|.region<|.p (mv rfl)<|.p (sg rfl)<|.nil<|.seq<|.ret<|?_
    refine TQ.weak ?_ (fun a w h=>Conc.gr_still kD h 8 1 26 y732 rfl rfl)
    exact fin_1 (.inr rfl) (.k rfl (.nil _)) results90 (.t rfl) (AVle.refl _)
   ·intro h381
    refine .block<|?_
    refine T.weak ?_ (fun a w h=>Conc.gr_nil kD h 11 1 26 rfl)
    refine .loopW (X:=Int × Int × (List AD)) (fun n x=>cv_four_6ec2_l4 y488 y490 a3 n x.1 x.2.1 x.2.2) (fun x=>(mkS [(0,some (.ptr 0 0)),(3,some (.fn 21 [] [])),(10,some (slK kD y490)),(11,some (grA kD 1 x.2.2)),(42,some (slK kD y488)),(43,some (.int .i64 (y488.length:Int))),(44,some (.int .i64 x.1))] [(0,(.live 45 [(.int .i64 x.2.1),(.int .i64 a3)])),(1,(grV kD 26 x.2.2))])) (0,a2,[]) (jn (m:=1) [(0,0),(1,1)] hE (.p rfl rfl<|.g rfl (ren_fnL _ .nil .nil)<|.l rfl<|.g rfl (ren_gr (K:=kD) (by rfl) [])<|.l rfl<|.i rfl<|.i rfl<|.nil) (.v rfl (.i<|.i<|.nil)<|.cons (.refl _) (renV_gr (K:=kD) 26 [])<|.nil) rfl) (fun _=>rfl) rfl<|?_
    rintro n4 ⟨y892,y893,y894⟩
    try dsimp only
    rw [cv_four_6ec2_l4]
    refine .seq<|.region<|.p (ar rfl)<|.nil<|.seq<|.seq<|?_
    refine T.cond_p rfl iff_dec (fun h630 h631=>?_) (fun h630 h631=>?_)
    ·refine .skip<|.seq<|.seq<|?_
     refine T.cut (X:=Int × (List AD)) (fun x=>cv_four_6ec2_j5 (fun z0 z1 z2=>cv_four_6ec2_l4 y488 y490 a3 n4 z0 z1 z2) y892 x.1 x.2) (fun x=>(mkS [(0,some (.ptr 0 0)),(3,some (.fn 21 [] [])),(10,some (slK kD y490)),(11,some (grA kD 1 x.2)),(42,some (slK kD y488)),(43,some (.int .i64 (y488.length:Int))),(44,some (.int .i64 y892))] [(0,(.live 45 [(.int .i64 x.1),(.int .i64 a3)])),(1,(grV kD 26 x.2))])) ?_ ?_
     ·rintro ⟨y933,y934⟩
      dsimp only [cv_four_6ec2_j5]
      refine .seq<|.region<|.p (ar rfl)<|.p (mv rfl)<|.nil<|.again ((IntKind.i64.wrap (y892+1)),y933,y934) (jn (m:=1) [(0,0),(1,1)] hE (.p rfl rfl<|.g rfl (ren_fnL _ .nil .nil)<|.l rfl<|.g rfl (ren_gr (K:=kD) (by rfl) y934)<|.l rfl<|.i rfl<|.i rfl<|.nil) (.v rfl (.i<|.i<|.nil)<|.cons (.refl _) (renV_gr (K:=kD) 26 y934)<|.nil) rfl) rfl
     ·intro h693
      refine .block<|.seq<|.region<|.guard fun h694=>?_
      refine TR.st 46 (.iptr [(.bool (((y488.getD y892.toNat zAD).M).Neg)),(slK (kInt .u32) (((y488.getD y892.toNat zAD).M).Mag)),(.int .i64 ((y488.getD y892.toNat zAD).E))]) [] (snd_indexK kD _ _ _ _ _ _ y892 rfl underlying96 si26 rfl rfl rfl rfl h694) rfl rfl rfl ?_
      refine .p (lai ag26 rfl)<|.w (al 2 ze26 rfl)<|.n (sa ag26 rfl)<|.nil<|.seq<|.seq<|.region<|.p (mv rfl)<|.p (ln underlying96 rfl)<|.p (mv rfl)<|.nil<|.seq<|?_
      refine T.cut (X:=Int × (List AD)) (fun x=>cv_four_6ec2_j6 (fun z0 z1 z2=>cv_four_6ec2_l4 y488 y490 a3 n4 z0 z1 z2) y892 x.1 x.2) (fun x=>(mkS [(0,some (.ptr 0 0)),(3,some (.fn 21 [] [])),(10,some (slK kD y490)),(11,some (grA kD 1 x.2)),(42,some (slK kD y488)),(43,some (.int .i64 (y488.length:Int))),(44,some (.int .i64 y892))] [(0,(.live 45 [(.int .i64 x.1),(.int .i64 a3)])),(1,(grV kD 26 x.2))])) ?_ ?_
      ·rintro ⟨y953,y954⟩
       dsimp only [cv_four_6ec2_j6]
       refine .block<|.weak (h693 (y953,y954)) (jn (m:=1) [(0,0),(1,1)] hE (.p rfl rfl<|.g rfl (ren_fnL _ .nil .nil)<|.l rfl<|.g rfl (ren_gr (K:=kD) (by rfl) y954)<|.l rfl<|.i rfl<|.i rfl<|.nil) (.v rfl (.i<|.i<|.nil)<|.cons (.refl _) (renV_gr (K:=kD) 26 y954)<|.nil) rfl)
      ·intro h725
       refine .block<|.loopW (X:=Int × Int × (List AD)) (fun n x=>cv_four_6ec2_l7 y490 y488 y892 a3 (fun z0 z1 z2=>cv_four_6ec2_l4 y488 y490 a3 n4 z0 z1 z2) n x.1 x.2.1 x.2.2) (fun x=>(mkS [(0,some (.ptr 0 0)),(3,some (.fn 21 [] [])),(10,some (slK kD y490)),(11,some (grA kD 1 x.2.2)),(13,some (.ptr 2 0)),(42,some (slK kD y488)),(43,some (.int .i64 (y488.length:Int))),(44,some (.int .i64 y892)),(48,some (slK kD y490)),(49,some (.int .i64 (y490.length:Int))),(50,some (.int .i64 x.1))] [(0,(.live 45 [(.int .i64 x.2.1),(.int .i64 a3)])),(1,(grV kD 26 x.2.2)),(2,(.live 26 [(.bool (((y488.getD y892.toNat zAD).M).Neg)),(slK (kInt .u32) (((y488.getD y892.toNat zAD).M).Mag)),(.int .i64 ((y488.getD y892.toNat zAD).E))]))])) (0,y893,y894) (jn (m:=1) [(0,0),(1,1),(2,2)] hE (.p rfl rfl<|.g rfl (ren_fnL _ .nil .nil)<|.l rfl<|.g rfl (ren_gr (K:=kD) (by rfl) y894)<|.p rfl rfl<|.l rfl<|.i rfl<|.i rfl<|.l rfl<|.i rfl<|.i rfl<|.nil) (.v rfl (.i<|.i<|.nil)<|.cons (.refl _) (renV_gr (K:=kD) 26 y894)<|.v rfl (.b<|.l<|.i<|.nil)<|.nil) rfl) (fun _=>rfl) rfl<|?_
       rintro n7 ⟨y966,y967,y968⟩
       try dsimp only
       rw [cv_four_6ec2_l7]
       refine .seq<|.region<|.p (ar rfl)<|.nil<|.seq<|.seq<|?_
       refine T.cond_p rfl iff_dec (fun h746 h747=>?_) (fun h746 h747=>?_)
       ·refine .skip<|.seq<|.seq<|.block<|.seq<|.region<|.guard fun h752=>?_
        refine TR.st 52 (.iptr [(.bool (((y490.getD y966.toNat zAD).M).Neg)),(slK (kInt .u32) (((y490.getD y966.toNat zAD).M).Mag)),(.int .i64 ((y490.getD y966.toNat zAD).E))]) [] (snd_indexK kD _ _ _ _ _ _ y966 rfl underlying96 si26 rfl rfl rfl rfl h752) rfl rfl rfl ?_
        refine .p (lai ag26 rfl)<|.w (al 3 ze26 rfl)<|.n (sa ag26 rfl)<|.nil<|.seq<|.region<|.p (mv rfl)<|.p (mv rfl)<|.p (mv rfl)<|.p (la ag26 rfl)<|.p (la ag26 rfl)<|.bind fun x971 h753=>.p (c0 (dyad_Mul_p h753) rfl)<|.p (xt rfl)<|?_
        refine .p (xt rfl)<|.bind fun x972 h754=>.w (cl (cv_take_k h754) [0] [] [true] rfl (.p rfl<|.a kD<|.i<|.nil) (.p rfl (.i<|.i<|.nil) .nil) fnil (.cons (.v (.i<|.i<|.nil)) .nil) (ren_agg (K:=kD) _) (.turned .nil) rfl)<|?_
        refine TR.st 63 (slK kD [(⟨((x972.1).M),(x972.1).E⟩:AD)]) [] (snd_buildSlice _ _ _ 3 _ _ [(0,(.agg (kD.enc (⟨((x972.1).M),(x972.1).E⟩:AD))))] (List.map kD.enc [(⟨((x972.1).M),(x972.1).E⟩:AD)]) rfl underlying96 ze26 si26 rfl rfl rfl (by decide) (by decide) (by decide) rfl rfl (Kd.even _) rfl) rfl rfl rfl ?_
        refine .guard fun h755=>?_
        refine TR.st 64 (.row 4 kD.sz 0 (((y968++[(⟨((x972.1).M),(x972.1).E⟩:AD)])).length)) [(4,(rwK kD 26 (y968++[(⟨((x972.1).M),(x972.1).E⟩:AD)]))),(1,.dead)] (snd_appendK_gr kD _ _ _ _ _ 1 4 y968 [(⟨((x972.1).M),(x972.1).E⟩:AD)] rfl underlying96 ze26 sb26 rfl rfl rfl rfl rfl rfl rfl h755) rfl rfl rfl ?_
        refine .p (sg rfl)<|.nil<|.block<|.seq<|.region<|.p (ar rfl)<|.p (mv rfl)<|.nil<|?_
        refine TQ.weak ?_ (fun a w h=>Conc.gr_row kD h 11 4 26 (y968++[(⟨((x972.1).M),(x972.1).E⟩:AD)]) rfl rfl (by first | omega | (simp only [List.length_append,List.length_cons,List.length_set]; omega) | simp))
        exact TQ.again ((IntKind.i64.wrap (y966+1)),x972.2,(y968++[(⟨((x972.1).M),(x972.1).E⟩:AD)])) (jn (m:=1) [(0,0),(4,1),(2,2)] hE (.p rfl rfl<|.g rfl (ren_fnL _ .nil .nil)<|.l rfl<|.g rfl (ren_gr (K:=kD) (by rfl) (y968++[(⟨((x972.1).M),(x972.1).E⟩:AD)]))<|.p rfl rfl<|.l rfl<|.i rfl<|.i rfl<|.l rfl<|.i rfl<|.i rfl<|.nil) (.v rfl (.i<|.i<|.nil)<|.cons (.refl _) (renV_gr (K:=kD) 26 (y968++[(⟨((x972.1).M),(x972.1).E⟩:AD)]))<|.v rfl (.b<|.l<|.i<|.nil)<|.nil) rfl) rfl
       ·refine .exit<|.seq_exit<|.loop_exit<|.block_exit<|.weak (h725 (y967,y968)) (jn (m:=1) [(0,0),(1,1)] hE (.p rfl rfl<|.g rfl (ren_fnL _ .nil .nil)<|.l rfl<|.g rfl (ren_gr (K:=kD) (by rfl) y968)<|.l rfl<|.i rfl<|.i rfl<|.nil) (.v rfl (.i<|.i<|.nil)<|.cons (.refl _) (renV_gr (K:=kD) 26 y968)<|.nil) rfl)
    ·refine .exit<|.seq_exit<|.loop_exit<|.block_exit<|.weak (h381 (y893,y894)) (jn (m:=1) [(0,0),(1,1)] hE (.g rfl (ren_gr (K:=kD) (by rfl) y894)<|.nil) (.v rfl (.i<|.i<|.nil)<|.cons (.refl _) (renV_gr (K:=kD) 26 y894)<|.nil) rfl)
  ·intro h756
   refine T.cond_p rfl iff_eq (fun h757 h758=>?_) (fun h757 h758=>?_)
   ·refine .region<|.p (mv rfl)<|.guard fun h759=>?_
    refine TR.st 41 (slK kD ([a1.Lo,a1.Hi].take 1)) [] (snd_sliceK kD _ _ _ _ _ _ 0 1 rfl underlying96 si26 rfl rfl rfl rfl rfl h759) rfl rfl rfl ?_
    refine .p (sg rfl)<|.nil<|.weak (h756 ([a1.Lo,a1.Hi].take 1)) (jn (m:=1) [(0,0)] hE (.p rfl rfl<|.g rfl (ren_fnL _ .nil .nil)<|.l rfl<|.l rfl<|.nil) (.v rfl (.i<|.i<|.nil)<|.nil) rfl)
   ·refine .skip<|.weak (h756 [a1.Lo,a1.Hi]) (jn (m:=1) [(0,0)] hE (.p rfl rfl<|.g rfl (ren_fnL _ .nil .nil)<|.l rfl<|.l rfl<|.nil) (.v rfl (.i<|.i<|.nil)<|.nil) rfl)
 ·intro h760
  refine T.cond_p rfl iff_eq (fun h761 h762=>?_) (fun h761 h762=>?_)
  ·refine .region<|.p (mv rfl)<|.guard fun h763=>?_
   refine TR.st 33 (slK kD ([a0.Lo,a0.Hi].take 1)) [] (snd_sliceK kD _ _ _ _ _ _ 0 1 rfl underlying96 si26 rfl rfl rfl rfl rfl h763) rfl rfl rfl ?_
   refine .p (sg rfl)<|.nil<|.weak (h760 ([a0.Lo,a0.Hi].take 1)) (jn (m:=1) [(0,0),(2,2)] hE (.p rfl rfl<|.g rfl (ren_fnL _ .nil .nil)<|.p rfl rfl<|.l rfl<|.l rfl<|.nil) (.v rfl (.i<|.i<|.nil)<|.v rfl (.b<|.l<|.i<|.b<|.l<|.i<|.nil)<|.nil) rfl)
  ·refine .skip<|.weak (h760 [a0.Lo,a0.Hi]) (jn (m:=1) [(0,0),(2,2)] hE (.p rfl rfl<|.g rfl (ren_fnL _ .nil .nil)<|.p rfl rfl<|.l rfl<|.l rfl<|.nil) (.v rfl (.i<|.i<|.nil)<|.v rfl (.b<|.l<|.i<|.b<|.l<|.i<|.nil)<|.nil) rfl)
theorem cv_four_6ec2_k {a0:AI} {a1:AI} {a2:Int} {a3:Int} {r:(List AD) × Int} (h:cv_four_6ec2 a0 a1 a2 a3=some r):Cal Tryz.prog 90 [(.ptr 0 0),(.agg (kI.enc a0)),(.agg (kI.enc a1)),(.fn 21 [] [])] [(.live 45 [(.int .i64 a2),(.int .i64 a3)])] (slK kD r.1) [(.live 45 [(.int .i64 r.2),(.int .i64 a3)])]:=⟨⟨_,func90,nm90,rfl⟩,cv_four_6ec2_c a0 a1 a2 a3 _ h⟩
theorem dyad_Round_c (a0:AD) (a1:Int) (a2:Bool):∀ r,dyad_Round a0 a1 a2=some r→ACalls Tryz.prog 144 [(.agg (kD.enc a0)),(.int .i64 a1),(.bool a2)] (lw []) (.tup [(.agg (kD.enc (⟨((r.1).M),(r.1).E⟩:AD))),(.int .i64 r.2)]) (ld []):=by
 unfold dyad_Round
 refine go 0 func144 ntmps144 rfl ?_
 intro E hE
 refine .seq<|.region<|.w (bx 0 rfl)<|.w (al 1 ze26 rfl)<|.p (sg rfl)<|.nil<|.seq<|.seq<|.region<|.p (bd ze85 pl85 rfl)<|.w (bx 2 rfl)<|.p (sg rfl)<|.nil<|.seq<|?_
 refine .seq<|.seq<|?_
 refine T.cut (X:=Bool × Int) (fun x=>dyad_Round_j1 a0 a1 a2 x.1 x.2) (fun x=>(mkS [(1,some (.int .i64 a1)),(2,some (.bool a2)),(3,some (.ptr 0 0)),(6,some (.ptr 1 0)),(8,some (.ptr 2 0)),(19,some (.bool x.1))] [(0,(.live 26 [(.bool a0.M.Neg),(slK (kInt .u32) a0.M.Mag),(.int .i64 a0.E)])),(1,(.live 26 [(.bool false),(slK (kInt .u32) []),(.int .i64 0)])),(2,(.live 85 [(.int .i64 x.2),(.bool false),(slK (kInt .u32) []),(.int .i64 0)]))])) ?_ ?_
 ·rintro ⟨y15,y16⟩
  dsimp only [dyad_Round_j1]
  refine .seq<|?_
  refine T.cut (X:=Bool × (List Int) × Int) (fun x=>dyad_Round_j2 y16 x.1 x.2.1 x.2.2) (fun x=>(mkS [(6,some (.ptr 1 0)),(8,some (.ptr 2 0))] [(1,(.live 26 [(.bool false),(slK (kInt .u32) []),(.int .i64 0)])),(2,(.live 85 [(.int .i64 y16),(.bool x.1),(slK (kInt .u32) x.2.1),(.int .i64 x.2.2)]))])) ?_ ?_
  ·rintro ⟨y18,y19,y20⟩
   dsimp only [dyad_Round_j2]
   refine .seq<|.seq<|.region<|.p (mv rfl)<|.bind fun x21 h7=>.w (cl (dw_told_k h7) [2] [] [true] rfl (.p rfl<|.nil) (.p rfl (.i<|.b<|.l<|.i<|.nil) .nil) fnil (.cons (.v (.i<|.b<|.l<|.i<|.nil)) .nil) (ren_tupL (.a kD<|.i<|.nil)) (.turned .nil) rfl)<|.p (xt rfl)<|.p (xt rfl)<|.n (sa ag26 rfl)<|.p (sg rfl)<|.nil<|.seq<|.ret<|fin_2 (.inr rfl) (.nil _) results144 (.a ag26 rfl) (.t rfl) (AVle.refl _)
  ·intro h8
   refine T.cond_p rfl iff_b (fun h9 h10=>?_) (fun h9 h10=>?_)
   ·refine .region<|.p (mv rfl)<|.p (fa 0 fl26_0 rfl)<|.p (fa 0 fl24_0 rfl)<|.p (ls sc4 rfl)<|.p (fa 0 fl26_0 rfl)<|.p (fa 1 fl24_1 rfl)<|.p (ls sc22 rfl)<|.p (fa 2 fl26_1 rfl)<|.p (ls sc3 rfl)<|.p (mv rfl)<|.p (mv rfl)<|.p (fa 0 fl26_0 rfl)<|.p (fa 0 fl24_0 rfl)<|?_
    refine .p (ls sc4 rfl)<|?_
    refine TR.st 34 (.bool (a2 != a0.M.Neg)) [] (snd_bool_neq _ _ _ _ _ _ rfl underlying4 rfl rfl rfl rfl) rfl rfl rfl ?_
    refine .bind fun x22 h11=>.w (cl (dw_cut_k h11) [2] [] [true] rfl (.p rfl<|.b<|.l<|.i<|.b<|.i<|.b<|.nil) (.p rfl (.i<|.b<|.l<|.i<|.nil) .nil) fnil (.cons (.v (.i<|.b<|.l<|.i<|.nil)) .nil) (ren_tupL .nil) (.turned .nil) rfl)<|.nil<|.weak (h8 (x22.1,x22.2.1,x22.2.2)) (jn (m:=0) [(1,1),(2,2)] hE (.p rfl rfl<|.p rfl rfl<|.nil) (.v rfl (.b<|.l<|.i<|.nil)<|.v rfl (.i<|.b<|.l<|.i<|.nil)<|.nil) rfl)
   ·refine .skip<|.weak (h8 (false,[],0)) (jn (m:=0) [(1,1),(2,2)] hE (.p rfl rfl<|.p rfl rfl<|.nil) (.v rfl (.b<|.l<|.i<|.nil)<|.v rfl (.i<|.b<|.l<|.i<|.nil)<|.nil) rfl)
 ·intro h12
  refine .region<|.p (mv rfl)<|.p (la ag26 rfl)<|?_
  refine TR.st 13 (slK kD [a0]) [] (snd_buildSlice _ _ _ 3 _ _ [(0,(.agg (kD.enc a0)))] (List.map kD.enc [a0]) rfl underlying96 ze26 si26 rfl rfl rfl (by decide) (by decide) (by decide) rfl rfl (Kd.even _) rfl) rfl rfl rfl ?_
  refine .bind fun x23 h13=>.w (cl (dw_right_k h13) [2] [] [true] rfl (.p rfl<|.l<|.nil) (.p rfl (.i<|.b<|.l<|.i<|.nil) .nil) fnil (.cons (.v (.i<|.b<|.l<|.i<|.nil)) .nil) (.bool _) (.turned .nil) rfl)<|.p (mv rfl)<|?_
  refine TR.gd 15 _ rfl iff_b (fun h14=>?_) (fun h14=>?_)
  ·refine .p (mv rfl)<|.p (mv rfl)<|.bind fun x24 h15=>.w (cl (dw_prec_k h15) [2] [] [true] rfl (.p rfl<|.i<|.nil) (.p rfl (.i<|.b<|.l<|.i<|.nil) .nil) fnil (.cons (.v (.i<|.b<|.l<|.i<|.nil)) .nil) (.bool _) (.turned .nil) rfl)<|.p (pt rfl)<|.nil<|.weak (h12 (x24.1,x24.2)) (jn (m:=0) [(0,0),(1,1),(2,2)] hE (.i rfl<|.b rfl<|.p rfl rfl<|.p rfl rfl<|.p rfl rfl<|.b rfl<|.nil) (.v rfl (.b<|.l<|.i<|.nil)<|.v rfl (.b<|.l<|.i<|.nil)<|.v rfl (.i<|.b<|.l<|.i<|.nil)<|.nil) rfl)
  ·refine .k rfl<|.k rfl<|.k rfl<|.p (pf rfl)<|.nil<|.weak (h12 (false,x23.2)) (jn (m:=0) [(0,0),(1,1),(2,2)] hE (.i rfl<|.b rfl<|.p rfl rfl<|.p rfl rfl<|.p rfl rfl<|.b rfl<|.nil) (.v rfl (.b<|.l<|.i<|.nil)<|.v rfl (.b<|.l<|.i<|.nil)<|.v rfl (.i<|.b<|.l<|.i<|.nil)<|.nil) rfl)
theorem dyad_Round_p {a0:AD} {a1:Int} {a2:Bool} {r:AD × Int} (h:dyad_Round a0 a1 a2=some r):Pur Tryz.prog 144 [(.agg (kD.enc a0)),(.int .i64 a1),(.bool a2)] (.tup [(.agg (kD.enc (⟨((r.1).M),(r.1).E⟩:AD))),(.int .i64 r.2)]):=⟨⟨_,func144,nm144,rfl⟩,dyad_Round_c a0 a1 a2 _ h,fun _=>(.a kD<|.i<|.b<|.nil),fun _=>(ren_tupL (.a kD<|.i<|.nil))⟩
theorem cv_down_c (a0:AD) (a1:Int) (a2:Int):∀ r,cv_down a0 a1 a2=some r→ACalls Tryz.prog 85 [(.ptr 0 0),(.agg (kD.enc a0))] (lw [(.live 45 [(.int .i64 a1),(.int .i64 a2)])]) (.agg (kD.enc (⟨((r.1).M),(r.1).E⟩:AD))) (ld [(.live 45 [(.int .i64 r.2),(.int .i64 a2)])]):=by
 unfold cv_down
 refine go 1 func85 ntmps85 rfl ?_
 intro E hE
 refine .seq<|.region<|.w (bx 1 rfl)<|.w (al 2 ze26 rfl)<|.nil<|.seq<|.seq<|.seq<|.region<|.p (mv rfl)<|.p (nc rfl)<|.p (fa 0 fl45_0 rfl)<|.p (fa 0 fl43_0 rfl)<|.p (ls sc29 rfl)<|?_
 refine .p (ar rfl)<|.nil<|.seq<|?_
 refine T.cond_p rfl iff_ne (fun h1 h2=>?_) (fun h1 h2=>?_)
 ·refine .seq<|.region<|.p (bd ze26 pl26 rfl)<|.n (sa ag26 rfl)<|.nil<|.seq<|.ret<|.seq_ret<|fin_1 (.inr rfl) (.k rfl (.nil _)) results85 (.a ag26 rfl) (AVle.refl _)
 ·refine .skip<|.seq<|.seq<|.draw mixed<|.p (mv rfl)<|.p (la ag26 rfl)<|.p (mv rfl)<|.p (nc rfl)<|.p (fa 1 fl45_1 rfl)<|.p (ls sc3 rfl)<|.bind fun x3 h3=>.p (c0 (dyad_Round_p h3) rfl)<|.p (xt rfl)<|.p (xt rfl)<|?_
  refine .bind fun x4 h4=>.w (cl (cv_take_k h4) [0] [] [true] rfl (.p rfl<|.a kD<|.i<|.nil) (.p rfl (.i<|.i<|.nil) .nil) fnil (.cons (.v (.i<|.i<|.nil)) .nil) (ren_agg (K:=kD) _) (.turned .nil) rfl)<|.n (sa ag26 rfl)<|.nil (by kernel_rfl)<|.seq<|.ret<|fin_1 (.inr rfl) (.k rfl (.nil _)) results85 (.a ag26 rfl) (AVle.refl _)
theorem cv_down_k {a0:AD} {a1:Int} {a2:Int} {r:AD × Int} (h:cv_down a0 a1 a2=some r):Cal Tryz.prog 85 [(.ptr 0 0),(.agg (kD.enc a0))] [(.live 45 [(.int .i64 a1),(.int .i64 a2)])] (.agg (kD.enc (⟨((r.1).M),(r.1).E⟩:AD))) [(.live 45 [(.int .i64 r.2),(.int .i64 a2)])]:=⟨⟨_,func85,nm85,rfl⟩,cv_down_c a0 a1 a2 _ h⟩
theorem cv_up_c (a0:AD) (a1:Int) (a2:Int):∀ r,cv_up a0 a1 a2=some r→ACalls Tryz.prog 88 [(.ptr 0 0),(.agg (kD.enc a0))] (lw [(.live 45 [(.int .i64 a1),(.int .i64 a2)])]) (.agg (kD.enc (⟨((r.1).M),(r.1).E⟩:AD))) (ld [(.live 45 [(.int .i64 r.2),(.int .i64 a2)])]):=by
 unfold cv_up
 refine go 1 func88 ntmps88 rfl ?_
 intro E hE
 refine .seq<|.region<|.w (bx 1 rfl)<|.w (al 2 ze26 rfl)<|.nil<|.seq<|.seq<|.seq<|.region<|.p (mv rfl)<|.p (nc rfl)<|.p (fa 0 fl45_0 rfl)<|.p (fa 0 fl43_0 rfl)<|.p (ls sc29 rfl)<|?_
 refine .p (ar rfl)<|.nil<|.seq<|?_
 refine T.cond_p rfl iff_ne (fun h1 h2=>?_) (fun h1 h2=>?_)
 ·refine .seq<|.region<|.p (bd ze26 pl26 rfl)<|.n (sa ag26 rfl)<|.nil<|.seq<|.ret<|.seq_ret<|fin_1 (.inr rfl) (.k rfl (.nil _)) results88 (.a ag26 rfl) (AVle.refl _)
 ·refine .skip<|.seq<|.seq<|.draw mixed<|.p (mv rfl)<|.p (la ag26 rfl)<|.p (mv rfl)<|.p (nc rfl)<|.p (fa 1 fl45_1 rfl)<|.p (ls sc3 rfl)<|.bind fun x3 h3=>.p (c0 (dyad_Round_p h3) rfl)<|.p (xt rfl)<|.p (xt rfl)<|?_
  refine .bind fun x4 h4=>.w (cl (cv_take_k h4) [0] [] [true] rfl (.p rfl<|.a kD<|.i<|.nil) (.p rfl (.i<|.i<|.nil) .nil) fnil (.cons (.v (.i<|.i<|.nil)) .nil) (ren_agg (K:=kD) _) (.turned .nil) rfl)<|.n (sa ag26 rfl)<|.nil (by kernel_rfl)<|.seq<|.ret<|fin_1 (.inr rfl) (.k rfl (.nil _)) results88 (.a ag26 rfl) (AVle.refl _)
theorem cv_up_k {a0:AD} {a1:Int} {a2:Int} {r:AD × Int} (h:cv_up a0 a1 a2=some r):Cal Tryz.prog 88 [(.ptr 0 0),(.agg (kD.enc a0))] [(.live 45 [(.int .i64 a1),(.int .i64 a2)])] (.agg (kD.enc (⟨((r.1).M),(r.1).E⟩:AD))) [(.live 45 [(.int .i64 r.2),(.int .i64 a2)])]:=⟨⟨_,func88,nm88,rfl⟩,cv_up_c a0 a1 a2 _ h⟩
theorem cv_Mul_c (a0:AI) (a1:AI) (a2:Int) (a3:Int):∀ r,cv_Mul a0 a1 a2 a3=some r→ACalls Tryz.prog 25 [(.ptr 0 0),(.agg (kI.enc a0)),(.agg (kI.enc a1))] (lw [(.live 45 [(.int .i64 a2),(.int .i64 a3)])]) (.agg (kI.enc (⟨⟨(((r.1).Lo).M),((r.1).Lo).E⟩,⟨(((r.1).Hi).M),((r.1).Hi).E⟩⟩:AI))) (ld [(.live 45 [(.int .i64 r.2),(.int .i64 a3)])]):=by
 unfold cv_Mul
 refine go 1 func25 ntmps25 rfl ?_
 intro E hE
 refine .seq<|.region<|.w (bx 1 rfl)<|.w (bx 2 rfl)<|.w (al 3 ze34 rfl)<|.nil<|.seq<|.seq<|.seq<|.region<|.p (mv rfl)<|.p (la ag34 rfl)<|.p (la ag34 rfl)<|?_
 refine TR.st 12 (slK kI [a0,a1]) [] (snd_buildSlice _ _ _ 6 _ _ [(0,(.agg (kI.enc a0))),(1,(.agg (kI.enc a1)))] (List.map kI.enc [a0,a1]) rfl underlying104 ze34 si34 rfl rfl rfl (by decide) (by decide) (by decide) rfl rfl (Kd.even _) rfl) rfl rfl rfl ?_
 refine .bind fun x7 h1=>.w (cl (cv_fine_k h1) [0] [] [true] rfl (.p rfl<|.l<|.nil) (.p rfl (.i<|.i<|.nil) .nil) fnil (.cons (.v (.i<|.i<|.nil)) .nil) (.bool _) (.turned .nil) rfl)<|.p (un rfl)<|.nil<|.seq<|?_
 refine T.cond_p rfl iff_nb (fun h2 h3=>?_) (fun h2 h3=>?_)
 ·refine .seq<|.region<|.p (bd ze34 pl34 rfl)<|.n (sa ag34 rfl)<|.nil<|.seq<|.ret<|.seq_ret<|fin_1 (.inr rfl) (.k rfl (.nil _)) results25 (.a ag34 rfl) (AVle.refl _)
 ·refine .skip<|.seq<|.seq<|.region<|.p (mv rfl)<|.p (la ag34 rfl)<|.p (la ag34 rfl)<|.bind fun x8 h4=>.w (cl (cv_four_6ec2_k h4) [0] [] [true] rfl (.p rfl<|.a kI<|.a kI<|.cons (ren_fnL _ .nil .nil)<|.nil) (.p rfl (.i<|.i<|.nil) .nil) fnil (.cons (.v (.i<|.i<|.nil)) .nil) (ren_sl _) (.turned .nil) rfl)<|.bind fun x9 h5=>.p (c0 (iv_ends_p h5) rfl)<|.p (mv rfl)<|.p (xt rfl)<|.p (xt rfl)<|?_
  refine .w (al 4 ze26 rfl)<|.w (al 5 ze26 rfl)<|.n (sa ag26 rfl)<|.n (sa ag26 rfl)<|.nil<|.seq<|.seq<|.region<|.p (mv rfl)<|.p (la ag26 rfl)<|.bind fun x10 h6=>.w (cl (cv_down_k h6) [0] [] [true] rfl (.p rfl<|.a kD<|.nil) (.p rfl (.i<|.i<|.nil) .nil) fnil (.cons (.v (.i<|.i<|.nil)) .nil) (ren_agg (K:=kD) _) (.turned .nil) rfl)<|.n (sa ag26 rfl)<|.nil<|?_
  refine .seq<|.seq<|.draw mixed<|.p (mv rfl)<|.p (la ag26 rfl)<|.p (mv rfl)<|.p (la ag26 rfl)<|.bind fun x11 h7=>.w (cl (cv_up_k h7) [0] [] [true] rfl (.p rfl<|.a kD<|.nil) (.p rfl (.i<|.i<|.nil) .nil) fnil (.cons (.v (.i<|.i<|.nil)) .nil) (ren_agg (K:=kD) _) (.turned .nil) rfl)<|.bind fun x12 h8=>.p (cl (cv_out_k h8) [0] [] [false] rfl (.p rfl<|.a kD<|.a kD<|.nil) (.p rfl (.i<|.i<|.nil) .nil) fnil (.cons (.v (.i<|.i<|.nil)) .nil) (ren_agg (K:=kI) _) (.kept rfl .nil) rfl)<|.n (sa ag34 rfl)<|.nil (by kernel_rfl)<|.seq<|?_
  refine .ret<|fin_1 (.inr rfl) (.k rfl (.nil _)) results25 (.a ag34 rfl) (AVle.refl _)
theorem cv_Mul_k {a0:AI} {a1:AI} {a2:Int} {a3:Int} {r:AI × Int} (h:cv_Mul a0 a1 a2 a3=some r):Cal Tryz.prog 25 [(.ptr 0 0),(.agg (kI.enc a0)),(.agg (kI.enc a1))] [(.live 45 [(.int .i64 a2),(.int .i64 a3)])] (.agg (kI.enc (⟨⟨(((r.1).Lo).M),((r.1).Lo).E⟩,⟨(((r.1).Hi).M),((r.1).Hi).E⟩⟩:AI))) [(.live 45 [(.int .i64 r.2),(.int .i64 a3)])]:=⟨⟨_,func25,nm25,rfl⟩,cv_Mul_c a0 a1 a2 a3 _ h⟩
theorem cv_Prec_c (a0:Int) (a1:Int):∀ r,cv_Prec a0 a1=some r→ACalls Tryz.prog 72 [(.ptr 0 0)] (lw [(.live 45 [(.int .i64 a0),(.int .i64 a1)])]) (.int .i64 r) (ld [(.live 45 [(.int .i64 a0),(.int .i64 a1)])]):=by
 unfold cv_Prec
 refine go 1 func72 ntmps72 rfl ?_
 intro E hE
 refine .seq<|.region<|.p (sg rfl)<|.nil<|.seq<|.seq<|.region<|.p (mv rfl)<|.p (nc rfl)<|.p (fa 1 fl45_1 rfl)<|.p (ls sc3 rfl)<|.p (sg rfl)<|.nil<|.seq<|?_
 refine .ret<|fin_1 (.inr rfl) (.k rfl (.nil _)) results72 (.t rfl) (AVle.refl _)
theorem cv_Prec_k {a0:Int} {a1:Int} {r:Int} (h:cv_Prec a0 a1=some r):Cal Tryz.prog 72 [(.ptr 0 0)] [(.live 45 [(.int .i64 a0),(.int .i64 a1)])] (.int .i64 r) [(.live 45 [(.int .i64 a0),(.int .i64 a1)])]:=⟨⟨_,func72,nm72,rfl⟩,cv_Prec_c a0 a1 _ h⟩
theorem small_Terms_c (a0:Int):∀ r,small_Terms a0=some r→ACalls Tryz.prog 56 [(.int .i64 a0)] (lw []) (.int .i64 r) (ld []):=by
 unfold small_Terms
 refine go 0 func56 ntmps56 rfl ?_
 intro E hE
 refine .seq<|.region<|.p (sg rfl)<|.nil<|.seq<|.seq<|.region<|.p (mv rfl)<|?_
 refine TR.st 4 (.int .i64 (mx a0 0)) [] (snd_max _ _ _ _ _ _ rfl rfl rfl rfl rfl) rfl rfl rfl ?_
 refine TR.st 5 (.int .i64 (mn (mx a0 0) 400)) [] (snd_min _ _ _ _ _ _ rfl rfl rfl rfl rfl) rfl rfl rfl ?_
 refine TR.st 6 (.int .i64 (IntKind.i64.wrap ((mn (mx a0 0) 400).tdiv 2))) [] (snd_quo _ _ _ _ _ _ _ rfl rfl rfl rfl rfl (by decide)) rfl rfl rfl ?_
 refine .p (ar rfl)<|.p (sg rfl)<|.nil<|.seq<|.ret<|fin_1 (.inr rfl) (.nil _) results56 (.t rfl) (AVle.refl _)
theorem small_Terms_p {a0:Int} {r:Int} (h:small_Terms a0=some r):Pur Tryz.prog 56 [(.int .i64 a0)] (.int .i64 r):=⟨⟨_,func56,nm56,rfl⟩,small_Terms_c a0 _ h,fun _=>(.i<|.nil),fun _=>(.int _ _)⟩
end Go.Proofs.YtpmpcohbpankaaaGreat.Gen
