/- Printed by gen.py: a call does what the plain function says. -/
import Derived.Test.YtpmpcohbpankaaaGreatIvPartsGenP1
namespace Go.Proofs.YtpmpcohbpankaaaGreat.Gen
open Go Go.Abs Go.Proofs

theorem astrolaberef05_Right_c (a0 : ApiDy) : ∀ r, astrolaberef05_Right a0 = some r → ACalls Tryz.prog 130 [(.agg (kApiDy.enc a0))] (lw []) (.bool r) (ld []) := by
  unfold astrolaberef05_Right
  refine go 0 Tryz.func130 Tryz.ntmps130 rfl ?_
  intro E hE
  refine .seq <| .region <| .w (bx 0 rfl) <| .p (sg rfl) <| .nil <| .seq <| .seq <| .region <| .p (fa 0 fl26_0 rfl) <| .p (la ag24 rfl) <| .bind fun x3 h1 => .p (c0 (astrolaberef04_Right_p h1) rfl) <| .p (sg rfl) <| .nil <| ?_
  refine .seq <| .seq <| .seq <| .region <| .p (mv rfl) <| .p (un rfl) <| .nil <| .seq <| ?_
  refine T.cond_p rfl iff_nb (fun h2 h3 => ?_) (fun h2 h3 => ?_)
  · refine .seq <| .region <| .p (sg rfl) <| .nil <| .seq <| .ret <| .seq_ret <| fin_1 (.inr rfl) (.nil _) Tryz.results130 (.t rfl) (AVle.refl _)
  · refine .skip <| .seq <| .seq <| .seq <| .region <| .p (fa 0 fl26_0 rfl) <| .p (fa 1 fl24_1 rfl) <| .p (ls sc22 rfl) <| .p (ln Tryz.underlying22 rfl) <| .p (ar rfl) <| .nil <| .seq <| ?_
    refine T.cond_p rfl iff_eq (fun h4 h5 => ?_) (fun h4 h5 => ?_)
    · refine .seq <| .region <| .p (fa 2 fl26_1 rfl) <| .p (ls sc3 rfl) <| .p (ar rfl) <| .p (sg rfl) <| .nil <| .seq <| .ret <| .seq_ret <| fin_1 (.inr rfl) (.nil _) Tryz.results130 (.t rfl) (AVle.refl _)
    · refine .skip <| .seq <| .seq <| ?_
      refine T.cut (X := Bool) (fun x => astrolaberef05_Right_j1 x) (fun x => (mkS [(2, some (.bool x))] [])) ?_ ?_
      · rintro y4
        dsimp only [astrolaberef05_Right_j1]
        refine .seq <| .ret <| fin_1 (.inr rfl) (.nil _) Tryz.results130 (.t rfl) (AVle.refl _)
      · intro h9
        refine .region <| .p (fa 0 fl26_0 rfl) <| .p (fa 1 fl24_1 rfl) <| .p (ls sc22 rfl) <| .guard fun h10 => ?_
        refine TR.st 20 (.iptr [(.int .u32 (a0.M.Mag.getD 0 (kInt .u32).z))]) [] (snd_indexK (kInt .u32) _ _ _ _ _ _ 0 rfl Tryz.underlying22 si77 rfl rfl rfl rfl h10) rfl rfl rfl ?_
        refine .p (lsi sc77 rfl) <| ?_
        refine TR.st 22 (.int .u32 ((a0.M.Mag.getD 0 (kInt .u32).z).tmod 2)) [] (snd_rem _ _ _ _ _ _ _ rfl rfl rfl rfl rfl (by decide)) rfl rfl rfl ?_
        refine .p (ar rfl) <| .p (mv rfl) <| ?_
        refine TR.gd 24 _ rfl iff_eq (fun h11 => ?_) (fun h11 => ?_)
        · refine .p (fa 2 fl26_1 rfl) <| .p (ls sc3 rfl) <| .p (ar rfl) <| .p (pt rfl) <| .p (mv rfl) <| ?_
          refine TR.gd 29 _ rfl iff_dec (fun h12 => ?_) (fun h12 => ?_)
          · refine .p (fa 2 fl26_1 rfl) <| .p (ls sc3 rfl) <| .p (ar rfl) <| .p (pt rfl) <| .p (sg rfl) <| .nil <| .weak (h9 (decide (a0.E ≤ 131072))) (jn (m := 0) [] hE (.b rfl <| .nil) .nil rfl)
          · refine .k rfl <| .k rfl <| .k rfl <| .p (pf rfl) <| .p (sg rfl) <| .nil <| .weak (h9 false) (jn (m := 0) [] hE (.b rfl <| .nil) .nil rfl)
        · refine .k rfl <| .k rfl <| .k rfl <| .p (pf rfl) <| .p (mv rfl) <| .k rfl <| .k rfl <| .k rfl <| .p (pf rfl) <| .p (sg rfl) <| .nil <| .weak (h9 false) (jn (m := 0) [] hE (.b rfl <| .nil) .nil rfl)
theorem astrolaberef05_Right_p {a0 : ApiDy} {r : Bool} (h : astrolaberef05_Right a0 = some r) : Pur Tryz.prog 130 [(.agg (kApiDy.enc a0))] (.bool r) := ⟨⟨_, Tryz.func130, nm130, rfl⟩, astrolaberef05_Right_c a0 _ h, fun _ => (.a kApiDy <| .nil), fun _ => (.bool _)⟩

theorem astrolaberef01_Cmp_c (a0 : List Int) (a1 : List Int) : ∀ r, astrolaberef01_Cmp a0 a1 = some r → ACalls Tryz.prog 182 [(slK (kInt .u32) a0), (slK (kInt .u32) a1)] (lw []) (.int .i64 r) (ld []) := by
  unfold astrolaberef01_Cmp
  refine go 0 Tryz.func182 Tryz.ntmps182 rfl ?_
  intro E hE
  refine .seq <| .region <| .p (sg rfl) <| .nil <| .seq <| .seq <| .seq <| .region <| .p (mv rfl) <| .p (ln Tryz.underlying22 rfl) <| .p (mv rfl) <| .p (ln Tryz.underlying22 rfl) <| ?_
  refine TR.st 10 (.int .i64 (mx (a0.length : Int) (a1.length : Int))) [] (snd_max _ _ _ _ _ _ rfl rfl rfl rfl rfl) rfl rfl rfl ?_
  refine .p (ar rfl) <| .p (sg rfl) <| .nil <| .seq <| ?_
  refine T.cut (X := Unit) (fun x => astrolaberef01_Cmp_j1) (fun x => (mkS [] [])) ?_ ?_
  · rintro _
    dsimp only [astrolaberef01_Cmp_j1]
    refine .seq <| .seq <| .region <| .p (sg rfl) <| .nil <| .seq <| .ret <| fin_1 (.inr rfl) (.nil _) Tryz.results182 (.t rfl) (AVle.refl _)
  · intro h55
    refine .block <| .loopW (X := Int) (fun n x => astrolaberef01_Cmp_l2 a0 a1 n x) (fun x => (mkS [(0, some (slK (kInt .u32) a0)), (1, some (slK (kInt .u32) a1)), (5, some (.int .i64 x))] [])) (IntKind.i64.wrap ((mx (a0.length : Int) (a1.length : Int)) - 1)) (jn (m := 0) [] hE (.l rfl <| .l rfl <| .i rfl <| .nil) .nil rfl) (fun _ => rfl) rfl <| ?_
    rintro n2 y96
    try dsimp only
    rw [astrolaberef01_Cmp_l2]
    refine .seq <| .seq <| .region <| .p (mv rfl) <| .p (ar rfl) <| .nil <| .seq <| ?_
    refine T.cond_p rfl iff_dec (fun h92 h93 => ?_) (fun h92 h93 => ?_)
    · refine .skip <| .seq <| .seq <| .block <| .seq <| .seq <| .region <| .p (mv rfl) <| .p (mv rfl) <| .bind fun x101 h102 => .p (c0 (astrolaberef01_at_p h102) rfl) <| .p (mv rfl) <| .p (mv rfl) <| .bind fun x102 h103 => ?_
      refine .p (c0 (astrolaberef01_at_p h103) rfl) <| .p (ar rfl) <| .nil <| .seq <| ?_
      refine T.cond_p rfl iff_dec (fun h104 h105 => ?_) (fun h104 h105 => ?_)
      · refine .seq <| .region <| .p (sg rfl) <| .nil <| .seq <| .ret <| .seq_ret <| .block_ret <| .seq_ret <| .loop_ret <| .block_ret <| .seq_ret <| fin_1 (.inr rfl) (.nil _) Tryz.results182 (.t rfl) (AVle.refl _)
      · refine .skip <| .seq <| .seq <| .region <| .p (mv rfl) <| .p (mv rfl) <| .bind fun x103 h106 => .p (c0 (astrolaberef01_at_p h106) rfl) <| .p (mv rfl) <| .p (mv rfl) <| .bind fun x104 h107 => .p (c0 (astrolaberef01_at_p h107) rfl) <| .p (ar rfl) <| .nil <| ?_
        refine .seq <| ?_
        refine T.cond_p rfl iff_dec (fun h108 h109 => ?_) (fun h108 h109 => ?_)
        · refine .seq <| .region <| .p (sg rfl) <| .nil <| .seq <| .ret <| .block_ret <| .seq_ret <| .loop_ret <| .block_ret <| .seq_ret <| fin_1 (.inr rfl) (.nil _) Tryz.results182 (.t rfl) (AVle.refl _)
        · refine .skip <| .block <| .seq <| .region <| .p (mv rfl) <| .p (ar rfl) <| .p (sg rfl) <| .nil <| .again (IntKind.i64.wrap (y96 - 1)) (jn (m := 0) [] hE (.l rfl <| .l rfl <| .i rfl <| .nil) .nil rfl) rfl
    · refine .exit <| .seq_exit <| .loop_exit <| .block_exit <| .weak (h55 ()) (jn (m := 0) [] hE .nil .nil rfl)
theorem astrolaberef01_Cmp_p {a0 : List Int} {a1 : List Int} {r : Int} (h : astrolaberef01_Cmp a0 a1 = some r) : Pur Tryz.prog 182 [(slK (kInt .u32) a0), (slK (kInt .u32) a1)] (.int .i64 r) := ⟨⟨_, Tryz.func182, nm182, rfl⟩, astrolaberef01_Cmp_c a0 a1 _ h, fun _ => (.l <| .l <| .nil), fun _ => (.int _ _)⟩

theorem astrolaberef04_Cmp_c (a0 : ApiInt) (a1 : ApiInt) : ∀ r, astrolaberef04_Cmp a0 a1 = some r → ACalls Tryz.prog 131 [(.agg (kApiInt.enc a0)), (.agg (kApiInt.enc a1))] (lw []) (.int .i64 r) (ld []) := by
  unfold astrolaberef04_Cmp
  refine go 0 Tryz.func131 Tryz.ntmps131 rfl ?_
  intro E hE
  refine .seq <| .region <| .w (bx 0 rfl) <| .w (bx 1 rfl) <| .p (sg rfl) <| .nil <| .seq <| .seq <| .region <| .p (fa 0 fl24_0 rfl) <| .p (ls sc4 rfl) <| .p (fa 1 fl24_1 rfl) <| .p (ls sc22 rfl) <| .bind fun x10 h1 => ?_
  refine .p (c0 (astrolaberef04_Make_p h1) rfl) <| .w (al 2 ze24 rfl) <| .n (sa ag24 rfl) <| .nil <| .seq <| .seq <| .region <| .p (fa 0 fl24_0 rfl) <| .p (ls sc4 rfl) <| .p (fa 1 fl24_1 rfl) <| .p (ls sc22 rfl) <| .bind fun x11 h2 => .p (c0 (astrolaberef04_Make_p h2) rfl) <| .w (al 3 ze24 rfl) <| ?_
  refine .n (sa ag24 rfl) <| .nil <| .seq <| .seq <| .block <| .seq <| ?_
  refine T.cut (X := Bool) (fun x => astrolaberef04_Cmp_j1 x10 x11 x) (fun x => (mkS [(5, some (.ptr 2 0)), (6, some (.ptr 3 0)), (17, some (.bool x))] [(2, (.live 24 [(.bool ((x10).Neg)), (slK (kInt .u32) ((x10).Mag))])), (3, (.live 24 [(.bool ((x11).Neg)), (slK (kInt .u32) ((x11).Mag))]))])) ?_ ?_
  · rintro y15
    dsimp only [astrolaberef04_Cmp_j1]
    refine .seq <| ?_
    refine T.cond_p rfl iff_b (fun h15 h16 => ?_) (fun h15 h16 => ?_)
    · refine .seq <| .region <| .p (sg rfl) <| .nil <| .seq <| .ret <| .block_ret <| .seq_ret <| fin_1 (.inr rfl) (.nil _) Tryz.results131 (.t rfl) (AVle.refl _)
    · refine .seq <| ?_
      refine T.cut (X := Bool) (fun x => astrolaberef04_Cmp_j2 x10 x11 x) (fun x => (mkS [(5, some (.ptr 2 0)), (6, some (.ptr 3 0)), (25, some (.bool x))] [(2, (.live 24 [(.bool ((x10).Neg)), (slK (kInt .u32) ((x10).Mag))])), (3, (.live 24 [(.bool ((x11).Neg)), (slK (kInt .u32) ((x11).Mag))]))])) ?_ ?_
      · rintro y16
        dsimp only [astrolaberef04_Cmp_j2]
        refine .seq <| ?_
        refine T.cond_p rfl iff_b (fun h18 h19 => ?_) (fun h18 h19 => ?_)
        · refine .seq <| .region <| .p (sg rfl) <| .nil <| .seq <| .ret <| .block_ret <| .seq_ret <| fin_1 (.inr rfl) (.nil _) Tryz.results131 (.t rfl) (AVle.refl _)
        · refine .seq <| .region <| .p (fa 0 fl24_0 rfl) <| .p (ls sc4 rfl) <| .p (sg rfl) <| .nil <| .seq <| ?_
          refine T.cond_p rfl iff_b (fun h20 h21 => ?_) (fun h20 h21 => ?_)
          · refine .seq <| .region <| .p (fa 1 fl24_1 rfl) <| .p (ls sc22 rfl) <| .p (fa 1 fl24_1 rfl) <| .p (ls sc22 rfl) <| .bind fun x17 h22 => .p (c0 (astrolaberef01_Cmp_p h22) rfl) <| .p (sg rfl) <| .nil <| .seq <| .ret <| .block_ret <| .seq_ret <| fin_1 (.inr rfl) (.nil _) Tryz.results131 (.t rfl) (AVle.refl _)
          · refine .skip <| .block <| .seq <| .seq <| .region <| .p (fa 1 fl24_1 rfl) <| .p (ls sc22 rfl) <| .p (fa 1 fl24_1 rfl) <| .p (ls sc22 rfl) <| .bind fun x18 h23 => .p (c0 (astrolaberef01_Cmp_p h23) rfl) <| .p (sg rfl) <| .nil <| .seq <| ?_
            refine .ret <| fin_1 (.inr rfl) (.nil _) Tryz.results131 (.t rfl) (AVle.refl _)
      · intro h24
        refine .region <| .p (fa 0 fl24_0 rfl) <| .p (ls sc4 rfl) <| .p (un rfl) <| .p (mv rfl) <| ?_
        refine TR.gd 29 _ rfl iff_nb (fun h25 => ?_) (fun h25 => ?_)
        · refine .p (fa 0 fl24_0 rfl) <| .p (ls sc4 rfl) <| .p (pt rfl) <| .p (sg rfl) <| .nil <| .weak (h24 (x11).Neg) (jn (m := 0) [(2, 2), (3, 3)] hE (.p rfl rfl <| .p rfl rfl <| .b rfl <| .nil) (.v rfl (.b <| .l <| .nil) <| .v rfl (.b <| .l <| .nil) <| .nil) rfl)
        · refine .k rfl <| .k rfl <| .p (pf rfl) <| .p (sg rfl) <| .nil <| .weak (h24 false) (jn (m := 0) [(2, 2), (3, 3)] hE (.p rfl rfl <| .p rfl rfl <| .b rfl <| .nil) (.v rfl (.b <| .l <| .nil) <| .v rfl (.b <| .l <| .nil) <| .nil) rfl)
  · intro h26
    refine .region <| .p (fa 0 fl24_0 rfl) <| .p (ls sc4 rfl) <| .p (mv rfl) <| ?_
    refine TR.gd 20 _ rfl iff_b (fun h27 => ?_) (fun h27 => ?_)
    · refine .p (fa 0 fl24_0 rfl) <| .p (ls sc4 rfl) <| .p (un rfl) <| .p (pt rfl) <| .p (sg rfl) <| .nil <| .weak (h26 (!((x11).Neg))) (jn (m := 0) [(2, 2), (3, 3)] hE (.p rfl rfl <| .p rfl rfl <| .b rfl <| .nil) (.v rfl (.b <| .l <| .nil) <| .v rfl (.b <| .l <| .nil) <| .nil) rfl)
    · refine .k rfl <| .k rfl <| .k rfl <| .p (pf rfl) <| .p (sg rfl) <| .nil <| .weak (h26 false) (jn (m := 0) [(2, 2), (3, 3)] hE (.p rfl rfl <| .p rfl rfl <| .b rfl <| .nil) (.v rfl (.b <| .l <| .nil) <| .v rfl (.b <| .l <| .nil) <| .nil) rfl)
theorem astrolaberef04_Cmp_p {a0 : ApiInt} {a1 : ApiInt} {r : Int} (h : astrolaberef04_Cmp a0 a1 = some r) : Pur Tryz.prog 131 [(.agg (kApiInt.enc a0)), (.agg (kApiInt.enc a1))] (.int .i64 r) := ⟨⟨_, Tryz.func131, nm131, rfl⟩, astrolaberef04_Cmp_c a0 a1 _ h, fun _ => (.a kApiInt <| .a kApiInt <| .nil), fun _ => (.int _ _)⟩

theorem astrolaberef01_Shl_c (a0 : List Int) (a1 : Int) : ∀ r, astrolaberef01_Shl a0 a1 = some r → ACalls Tryz.prog 205 [(slK (kInt .u32) a0), (.int .i64 a1)] (lw []) (.tup [(slK (kInt .u32) r.1), (.bool r.2)]) (ld []) := by
  unfold astrolaberef01_Shl
  refine go 0 Tryz.func205 Tryz.ntmps205 rfl ?_
  intro E hE
  refine .seq <| .region <| .p (sg rfl) <| .p (sg rfl) <| .nil <| .seq <| .seq <| .seq <| ?_
  refine T.cut (X := Bool) (fun x => astrolaberef01_Shl_j1 a1 a0 x) (fun x => (mkS [(0, some (slK (kInt .u32) a0)), (1, some (.int .i64 a1)), (15, some (.bool x))] [])) ?_ ?_
  · rintro y17
    dsimp only [astrolaberef01_Shl_j1]
    refine .seq <| ?_
    refine T.cond_p rfl iff_b (fun h2 h3 => ?_) (fun h2 h3 => ?_)
    · refine .seq <| .region <| .p (sg rfl) <| .p (sg rfl) <| .nil <| .seq <| .ret <| .seq_ret <| fin_2 (.inr rfl) (.nil _) Tryz.results205 (.t rfl) (.t rfl) (.tup (.cons AVle.nil (.cons (AVle.refl _) .nil)))
    · refine .skip <| .seq <| .seq <| .region <| .p (mv rfl) <| ?_
      refine TR.st 17 (.int .i64 (IntKind.i64.wrap (a1.tdiv 32))) [] (snd_quo _ _ _ _ _ _ _ rfl rfl rfl rfl rfl (by decide)) rfl rfl rfl ?_
      refine .guard fun h4 => ?_
      refine TR.st 18 (.row 0 (kInt .u32).sz 0 (((List.replicate ((IntKind.i64.wrap (a1.tdiv 32)).toNat) (kInt .u32).z)).length)) [(0, (rwK (kInt .u32) 77 (List.replicate ((IntKind.i64.wrap (a1.tdiv 32)).toNat) (kInt .u32).z)))] (snd_makeK (kInt .u32) _ _ _ _ _ 0 _ _ _ rfl Tryz.underlying22 ze77 sb77 (by decide) rfl rfl rfl rfl rfl h4) rfl rfl rfl ?_
      refine .p (sg rfl) <| .nil <| .seq <| .seq <| .region <| .p (sg rfl) <| .nil <| .seq <| .seq <| .seq <| .region <| .p (sg rfl) <| .nil <| .seq <| ?_
      refine T.cut (X := Int × (List Int)) (fun x => astrolaberef01_Shl_j2 x.1 x.2) (fun x => (mkS [(6, some (.row 0 (kInt .u32).sz 0 ((x.2).length))), (7, some (.int .u64 x.1))] [(0, (rwK (kInt .u32) 77 x.2))])) ?_ ?_
      · rintro ⟨y24, y25⟩
        dsimp only [astrolaberef01_Shl_j2]
        refine .seq <| .seq <| .region <| .p (mv rfl) <| .p (mv rfl) <| .p (cv Tryz.underlying117 Tryz.underlying77 rfl) <| ?_
        refine TR.st 45 (slK (kInt .u32) [(IntKind.u32.wrap y24)]) [] (snd_buildSlice _ _ _ 1 _ _ [(0, (.int .u32 (IntKind.u32.wrap y24)))] (List.map (kInt .u32).enc [(IntKind.u32.wrap y24)]) rfl Tryz.underlying22 ze77 si77 rfl rfl rfl (by decide) (by decide) (by decide) rfl rfl (Kd.even _) rfl) rfl rfl rfl ?_
        refine .guard fun h29 => ?_
        refine TR.st 46 (.row 1 (kInt .u32).sz 0 (((y25 ++ [(IntKind.u32.wrap y24)])).length)) [(1, (rwK (kInt .u32) 77 (y25 ++ [(IntKind.u32.wrap y24)]))), (0, .dead)] (snd_appendK (kInt .u32) _ _ _ _ _ 0 1 y25 [(IntKind.u32.wrap y24)] rfl Tryz.underlying22 ze77 sb77 rfl rfl rfl rfl rfl rfl h29) rfl rfl rfl ?_
        refine TR.weak ?_ (fun a w h => Conc.freezeK (kInt .u32) h 46 1 0 (((y25 ++ [(IntKind.u32.wrap y24)])).length) 77 (y25 ++ [(IntKind.u32.wrap y24)]) rfl rfl (by omega))
        refine TR.weak ?_ (fun a w h => take_all h)
        refine .bind fun x26 h30 => .p (c0 (astrolaberef01_Trim_p h30) rfl) <| .p (sg rfl) <| .p (sg rfl) <| .nil <| .seq <| .ret <| fin_2 (.inr rfl) (.nil _) Tryz.results205 (.t rfl) (.t rfl) (AVle.refl _)
      · intro h31
        refine .block <| .loopW (X := Int × Int × (List Int)) (fun n x => astrolaberef01_Shl_l3 a0 a1 n x.1 x.2.1 x.2.2) (fun x => (mkS [(0, some (slK (kInt .u32) a0)), (1, some (.int .i64 a1)), (6, some (.row 0 (kInt .u32).sz 0 ((x.2.2).length))), (7, some (.int .u64 x.1)), (8, some (.int .i64 x.2.1))] [(0, (rwK (kInt .u32) 77 x.2.2))])) (0, 0, (List.replicate ((IntKind.i64.wrap (a1.tdiv 32)).toNat) (kInt .u32).z)) (jn (m := 0) [(0, 0)] hE (.l rfl <| .i rfl <| .g rfl (.row _ _ _ _ _ rfl) <| .i rfl <| .i rfl <| .nil) (.cons (.refl _) (renV_rw _ _) <| .nil) rfl) (fun _ => rfl) rfl <| ?_
        rintro n3 ⟨y30, y31, y32⟩
        try dsimp only
        rw [astrolaberef01_Shl_l3]
        refine .seq <| .seq <| .region <| .p (mv rfl) <| .p (mv rfl) <| .p (ln Tryz.underlying22 rfl) <| .p (ar rfl) <| .nil <| .seq <| ?_
        refine T.cond_p rfl iff_dec (fun h48 h49 => ?_) (fun h48 h49 => ?_)
        · refine .skip <| .seq <| .seq <| .block <| .seq <| .region <| .p (mv rfl) <| .p (mv rfl) <| .guard fun h53 => ?_
          refine TR.st 27 (.iptr [(.int .u32 (a0.getD y31.toNat (kInt .u32).z))]) [] (snd_indexK (kInt .u32) _ _ _ _ _ _ y31 rfl Tryz.underlying22 si77 rfl rfl rfl rfl h53) rfl rfl rfl ?_
          refine .p (lsi sc77 rfl) <| .p (cv Tryz.underlying77 Tryz.underlying117 rfl) <| .p (mv rfl) <| ?_
          refine TR.st 31 (.int .i64 (a1.tmod 32)) [] (snd_rem _ _ _ _ _ _ _ rfl rfl rfl rfl rfl (by decide)) rfl rfl rfl ?_
          refine .guard fun h54 => ?_
          refine TR.st 32 (.int .u64 (shlI .u64 (IntKind.u64.wrap (a0.getD y31.toNat (kInt .u32).z)) (a1.tmod 32))) [] (snd_shl _ _ _ _ _ _ _ _ rfl rfl rfl rfl rfl h54) rfl rfl rfl ?_
          refine .p (mv rfl) <| .p (ar rfl) <| .p (sg rfl) <| .nil <| .seq <| .seq <| .region <| .p (mv rfl) <| .p (mv rfl) <| .p (cv Tryz.underlying117 Tryz.underlying77 rfl) <| ?_
          refine TR.st 38 (slK (kInt .u32) [(IntKind.u32.wrap (orI .u64 (shlI .u64 (IntKind.u64.wrap (a0.getD y31.toNat (kInt .u32).z)) (a1.tmod 32)) y30))]) [] (snd_buildSlice _ _ _ 1 _ _ [(0, (.int .u32 (IntKind.u32.wrap (orI .u64 (shlI .u64 (IntKind.u64.wrap (a0.getD y31.toNat (kInt .u32).z)) (a1.tmod 32)) y30))))] (List.map (kInt .u32).enc [(IntKind.u32.wrap (orI .u64 (shlI .u64 (IntKind.u64.wrap (a0.getD y31.toNat (kInt .u32).z)) (a1.tmod 32)) y30))]) rfl Tryz.underlying22 ze77 si77 rfl rfl rfl (by decide) (by decide) (by decide) rfl rfl (Kd.even _) rfl) rfl rfl rfl ?_
          refine .guard fun h55 => ?_
          refine TR.st 39 (.row 1 (kInt .u32).sz 0 (((y32 ++ [(IntKind.u32.wrap (orI .u64 (shlI .u64 (IntKind.u64.wrap (a0.getD y31.toNat (kInt .u32).z)) (a1.tmod 32)) y30))])).length)) [(1, (rwK (kInt .u32) 77 (y32 ++ [(IntKind.u32.wrap (orI .u64 (shlI .u64 (IntKind.u64.wrap (a0.getD y31.toNat (kInt .u32).z)) (a1.tmod 32)) y30))]))), (0, .dead)] (snd_appendK (kInt .u32) _ _ _ _ _ 0 1 y32 [(IntKind.u32.wrap (orI .u64 (shlI .u64 (IntKind.u64.wrap (a0.getD y31.toNat (kInt .u32).z)) (a1.tmod 32)) y30))] rfl Tryz.underlying22 ze77 sb77 rfl rfl rfl rfl rfl rfl h55) rfl rfl rfl ?_
          refine .p (sg rfl) <| .nil <| .seq <| .region <| .p (mv rfl) <| ?_
          refine TR.st 41 (.int .u64 (shrI .u64 (orI .u64 (shlI .u64 (IntKind.u64.wrap (a0.getD y31.toNat (kInt .u32).z)) (a1.tmod 32)) y30) 32)) [] (snd_shr _ _ _ _ _ _ _ _ rfl rfl rfl rfl rfl (by decide)) rfl rfl rfl ?_
          refine .p (sg rfl) <| .nil <| .block <| .seq <| .region <| .p (mv rfl) <| .p (ar rfl) <| .p (sg rfl) <| .nil <| .again ((shrI .u64 (orI .u64 (shlI .u64 (IntKind.u64.wrap (a0.getD y31.toNat (kInt .u32).z)) (a1.tmod 32)) y30) 32), (IntKind.i64.wrap (y31 + 1)), (y32 ++ [(IntKind.u32.wrap (orI .u64 (shlI .u64 (IntKind.u64.wrap (a0.getD y31.toNat (kInt .u32).z)) (a1.tmod 32)) y30))])) (jn (m := 0) [(1, 0)] hE (.l rfl <| .i rfl <| .g rfl (.row _ _ _ _ _ rfl) <| .i rfl <| .i rfl <| .nil) (.cons (.refl _) (renV_rw _ _) <| .nil) rfl) rfl
        · refine .exit <| .seq_exit <| .loop_exit <| .block_exit <| .weak (h31 (y30, y32)) (jn (m := 0) [(0, 0)] hE (.g rfl (.row _ _ _ _ _ rfl) <| .i rfl <| .nil) (.cons (.refl _) (renV_rw _ _) <| .nil) rfl)
  · intro h56
    refine .region <| .p (mv rfl) <| .p (ar rfl) <| .p (mv rfl) <| ?_
    refine TR.gd 12 _ rfl iff_dec (fun h57 => ?_) (fun h57 => ?_)
    · refine .k rfl <| .k rfl <| .p (pt rfl) <| .nil <| .weak (h56 true) (jn (m := 0) [] hE (.l rfl <| .i rfl <| .b rfl <| .nil) .nil rfl)
    · refine .p (mv rfl) <| .p (ar rfl) <| .p (pf rfl) <| .nil <| .weak (h56 (decide (a1 > 100000))) (jn (m := 0) [] hE (.l rfl <| .i rfl <| .b rfl <| .nil) .nil rfl)
theorem astrolaberef01_Shl_p {a0 : List Int} {a1 : Int} {r : (List Int) × Bool} (h : astrolaberef01_Shl a0 a1 = some r) : Pur Tryz.prog 205 [(slK (kInt .u32) a0), (.int .i64 a1)] (.tup [(slK (kInt .u32) r.1), (.bool r.2)]) := ⟨⟨_, Tryz.func205, nm205, rfl⟩, astrolaberef01_Shl_c a0 a1 _ h, fun _ => (.l <| .i <| .nil), fun _ => (ren_tupL (.l <| .b <| .nil))⟩

theorem astrolaberef05_up_c (a0 : ApiInt) (a1 : Int) : ∀ r, astrolaberef05_up a0 a1 = some r → ACalls Tryz.prog 184 [(.agg (kApiInt.enc a0)), (.int .i64 a1)] (lw []) (.agg (kApiInt.enc (r))) (ld []) := by
  unfold astrolaberef05_up
  refine go 0 Tryz.func184 Tryz.ntmps184 rfl ?_
  intro E hE
  refine .seq <| .region <| .w (bx 0 rfl) <| .w (al 1 ze24 rfl) <| .nil <| .seq <| .seq <| .region <| .p (fa 1 fl24_1 rfl) <| .p (ls sc22 rfl) <| .p (sg rfl) <| .nil <| .seq <| .seq <| ?_
  refine T.cut (X := (List Int)) (fun x => astrolaberef05_up_j1 a0 x) (fun x => (mkS [(2, some (.ptr 0 0)), (4, some (.ptr 1 0)), (5, some (slK (kInt .u32) x))] [(0, (.live 24 [(.bool a0.Neg), (slK (kInt .u32) a0.Mag)])), (1, (.live 24 [(.bool false), (slK (kInt .u32) [])]))])) ?_ ?_
  · rintro y33
    dsimp only [astrolaberef05_up_j1]
    refine .seq <| .seq <| .region <| .p (fa 0 fl24_0 rfl) <| .p (ls sc4 rfl) <| .p (mv rfl) <| .bind fun x34 h13 => .p (c0 (astrolaberef04_Make_p h13) rfl) <| .n (sa ag24 rfl) <| .nil <| .seq <| .ret <| fin_1 (.inr rfl) (.nil _) Tryz.results184 (.a ag24 rfl) (AVle.refl _)
  · intro h14
    refine .block <| .loopW (X := Int × (List Int)) (fun n x => astrolaberef05_up_l2 a0 n x.1 x.2) (fun x => (mkS [(1, some (.int .i64 x.1)), (2, some (.ptr 0 0)), (4, some (.ptr 1 0)), (5, some (slK (kInt .u32) x.2))] [(0, (.live 24 [(.bool a0.Neg), (slK (kInt .u32) a0.Mag)])), (1, (.live 24 [(.bool false), (slK (kInt .u32) [])]))])) (a1, a0.Mag) (jn (m := 0) [(0, 0), (1, 1)] hE (.i rfl <| .p rfl rfl <| .p rfl rfl <| .l rfl <| .nil) (.v rfl (.b <| .l <| .nil) <| .v rfl (.b <| .l <| .nil) <| .nil) rfl) (fun _ => rfl) rfl <| ?_
    rintro n2 ⟨y41, y42⟩
    try dsimp only
    rw [astrolaberef05_up_l2]
    refine .seq <| .seq <| .region <| .p (mv rfl) <| .p (ar rfl) <| .nil <| .seq <| ?_
    refine T.cond_p rfl iff_dec (fun h23 h24 => ?_) (fun h23 h24 => ?_)
    · refine .skip <| .seq <| .block <| .seq <| .region <| .p (mv rfl) <| ?_
      refine TR.st 12 (.int .i64 (mn y41 100000)) [] (snd_min _ _ _ _ _ _ rfl rfl rfl rfl rfl) rfl rfl rfl ?_
      refine .p (sg rfl) <| .nil <| .seq <| .seq <| .region <| .p (mv rfl) <| .p (mv rfl) <| .bind fun x44 h26 => .p (c0 (astrolaberef01_Shl_p h26) rfl) <| .p (mv rfl) <| .p (xt rfl) <| .p (xt rfl) <| .p (sg rfl) <| .nil <| ?_
      refine .seq <| .region <| .p (mv rfl) <| .p (mv rfl) <| .p (ar rfl) <| .p (sg rfl) <| .nil <| .block <| .again ((IntKind.i64.wrap (y41 - (mn y41 100000))), x44.1) (jn (m := 0) [(0, 0), (1, 1)] hE (.i rfl <| .p rfl rfl <| .p rfl rfl <| .l rfl <| .nil) (.v rfl (.b <| .l <| .nil) <| .v rfl (.b <| .l <| .nil) <| .nil) rfl) rfl
    · refine .exit <| .seq_exit <| .loop_exit <| .block_exit <| .weak (h14 y42) (jn (m := 0) [(0, 0), (1, 1)] hE (.p rfl rfl <| .p rfl rfl <| .l rfl <| .nil) (.v rfl (.b <| .l <| .nil) <| .v rfl (.b <| .l <| .nil) <| .nil) rfl)
theorem astrolaberef05_up_p {a0 : ApiInt} {a1 : Int} {r : ApiInt} (h : astrolaberef05_up a0 a1 = some r) : Pur Tryz.prog 184 [(.agg (kApiInt.enc a0)), (.int .i64 a1)] (.agg (kApiInt.enc (r))) := ⟨⟨_, Tryz.func184, nm184, rfl⟩, astrolaberef05_up_c a0 a1 _ h, fun _ => (.a kApiInt <| .i <| .nil), fun _ => (ren_agg (K := kApiInt) _)⟩

theorem astrolaberef05_lift_c (a0 : ApiDy) (a1 : ApiDy) : ∀ r, astrolaberef05_lift a0 a1 = some r → ACalls Tryz.prog 133 [(.agg (kApiDy.enc a0)), (.agg (kApiDy.enc a1))] (lw []) (.tup [(.agg (kApiInt.enc (r.1))), (.agg (kApiInt.enc (r.2.1))), (.int .i64 r.2.2)]) (ld []) := by
  unfold astrolaberef05_lift
  refine go 0 Tryz.func133 Tryz.ntmps133 rfl ?_
  intro E hE
  refine .seq <| .region <| .w (bx 0 rfl) <| .w (bx 1 rfl) <| .w (al 2 ze24 rfl) <| .w (al 3 ze24 rfl) <| .p (sg rfl) <| .nil <| .seq <| .seq <| .block <| .seq <| .region <| .p (fa 0 fl26_0 rfl) <| ?_
  refine .p (fa 1 fl24_1 rfl) <| .p (ls sc22 rfl) <| .p (ln Tryz.underlying22 rfl) <| .p (ar rfl) <| .p (sg rfl) <| .nil <| .seq <| ?_
  refine T.cond_p rfl iff_eq (fun h8 h9 => ?_) (fun h8 h9 => ?_)
  · refine .seq <| .draw mixed <| .p (bd ze24 pl24 rfl) <| .p (fa 0 fl26_0 rfl) <| .p (la ag24 rfl) <| .p (fa 2 fl26_1 rfl) <| .p (ls sc3 rfl) <| .n (sa ag24 rfl) <| .n (sa ag24 rfl) <| .p (sg rfl) <| .nil (by kernel_rfl) <| .seq <| .ret <| .block_ret <| ?_
    refine .seq_ret <| fin_3 (.inr rfl) (.nil _) Tryz.results133 (.a ag24 rfl) (.a ag24 rfl) (.t rfl) (AVle.refl _)
  · refine .seq <| .region <| .p (fa 0 fl26_0 rfl) <| .p (fa 1 fl24_1 rfl) <| .p (ls sc22 rfl) <| .p (ln Tryz.underlying22 rfl) <| .p (ar rfl) <| .p (sg rfl) <| .nil <| .seq <| ?_
    refine T.cond_p rfl iff_eq (fun h10 h11 => ?_) (fun h10 h11 => ?_)
    · refine .seq <| .draw mixed <| .p (fa 0 fl26_0 rfl) <| .p (la ag24 rfl) <| .p (bd ze24 pl24 rfl) <| .p (fa 2 fl26_1 rfl) <| .p (ls sc3 rfl) <| .n (sa ag24 rfl) <| .n (sa ag24 rfl) <| .p (sg rfl) <| .nil (by kernel_rfl) <| .seq <| .ret <| .block_ret <| ?_
      refine .seq_ret <| fin_3 (.inr rfl) (.nil _) Tryz.results133 (.a ag24 rfl) (.a ag24 rfl) (.t rfl) (AVle.refl _)
    · refine .seq <| .region <| .p (fa 2 fl26_1 rfl) <| .p (ls sc3 rfl) <| .p (fa 2 fl26_1 rfl) <| .p (ls sc3 rfl) <| .p (ar rfl) <| .p (sg rfl) <| .nil <| .seq <| ?_
      refine T.cond_p rfl iff_dec (fun h12 h13 => ?_) (fun h12 h13 => ?_)
      · refine .seq <| .draw mixed <| .p (fa 0 fl26_0 rfl) <| .p (la ag24 rfl) <| .p (fa 2 fl26_1 rfl) <| .p (ls sc3 rfl) <| .p (fa 2 fl26_1 rfl) <| .p (ls sc3 rfl) <| .p (ar rfl) <| .bind fun x5 h14 => .p (c0 (astrolaberef05_up_p h14) rfl) <| .p (fa 0 fl26_0 rfl) <| .p (la ag24 rfl) <| .p (fa 2 fl26_1 rfl) <| ?_
        refine .p (ls sc3 rfl) <| .n (sa ag24 rfl) <| .n (sa ag24 rfl) <| .p (sg rfl) <| .nil (by kernel_rfl) <| .seq <| .ret <| .block_ret <| .seq_ret <| fin_3 (.inr rfl) (.nil _) Tryz.results133 (.a ag24 rfl) (.a ag24 rfl) (.t rfl) (AVle.refl _)
      · refine .skip <| .block <| .seq <| .seq <| .draw mixed <| .p (fa 0 fl26_0 rfl) <| .p (la ag24 rfl) <| .p (fa 0 fl26_0 rfl) <| .p (la ag24 rfl) <| .p (fa 2 fl26_1 rfl) <| .p (ls sc3 rfl) <| .p (fa 2 fl26_1 rfl) <| .p (ls sc3 rfl) <| .p (ar rfl) <| ?_
        refine .bind fun x6 h15 => .p (c0 (astrolaberef05_up_p h15) rfl) <| .p (fa 2 fl26_1 rfl) <| .p (ls sc3 rfl) <| .n (sa ag24 rfl) <| .n (sa ag24 rfl) <| .p (sg rfl) <| .nil (by kernel_rfl) <| .seq <| .ret <| fin_3 (.inr rfl) (.nil _) Tryz.results133 (.a ag24 rfl) (.a ag24 rfl) (.t rfl) (AVle.refl _)
theorem astrolaberef05_lift_p {a0 : ApiDy} {a1 : ApiDy} {r : ApiInt × ApiInt × Int} (h : astrolaberef05_lift a0 a1 = some r) : Pur Tryz.prog 133 [(.agg (kApiDy.enc a0)), (.agg (kApiDy.enc a1))] (.tup [(.agg (kApiInt.enc (r.1))), (.agg (kApiInt.enc (r.2.1))), (.int .i64 r.2.2)]) := ⟨⟨_, Tryz.func133, nm133, rfl⟩, astrolaberef05_lift_c a0 a1 _ h, fun _ => (.a kApiDy <| .a kApiDy <| .nil), fun _ => (ren_tupL (.a kApiInt <| .a kApiInt <| .i <| .nil))⟩

theorem astrolaberef05_Cmp_c (a0 : ApiDy) (a1 : ApiDy) : ∀ r, astrolaberef05_Cmp a0 a1 = some r → ACalls Tryz.prog 74 [(.agg (kApiDy.enc a0)), (.agg (kApiDy.enc a1))] (lw []) (.int .i64 r) (ld []) := by
  unfold astrolaberef05_Cmp
  refine go 0 Tryz.func74 Tryz.ntmps74 rfl ?_
  intro E hE
  refine .seq <| .region <| .w (bx 0 rfl) <| .w (bx 1 rfl) <| .p (sg rfl) <| .nil <| .seq <| .seq <| .region <| .p (la ag26 rfl) <| .bind fun x12 h1 => .p (c0 (astrolaberef05_Right_p h1) rfl) <| .p (sg rfl) <| .nil <| ?_
  refine .seq <| .seq <| .region <| .p (la ag26 rfl) <| .bind fun x13 h2 => .p (c0 (astrolaberef05_Right_p h2) rfl) <| .p (sg rfl) <| .nil <| .seq <| .seq <| .seq <| ?_
  refine T.cut (X := Bool) (fun x => astrolaberef05_Cmp_j1 a0 a1 x) (fun x => (mkS [(2, some (.ptr 0 0)), (3, some (.ptr 1 0)), (19, some (.bool x))] [(0, (.live 26 [(.bool a0.M.Neg), (slK (kInt .u32) a0.M.Mag), (.int .i64 a0.E)])), (1, (.live 26 [(.bool a1.M.Neg), (slK (kInt .u32) a1.M.Mag), (.int .i64 a1.E)]))])) ?_ ?_
  · rintro y14
    dsimp only [astrolaberef05_Cmp_j1]
    refine .seq <| ?_
    refine T.cond_p rfl iff_b (fun h4 h5 => ?_) (fun h4 h5 => ?_)
    · refine .seq <| .region <| .p (sg rfl) <| .nil <| .seq <| .ret <| .seq_ret <| fin_1 (.inr rfl) (.nil _) Tryz.results74 (.t rfl) (AVle.refl _)
    · refine .skip <| .seq <| .seq <| .seq <| ?_
      refine T.cut (X := Bool) (fun x => astrolaberef05_Cmp_j2 a0 a1 x) (fun x => (mkS [(2, some (.ptr 0 0)), (3, some (.ptr 1 0)), (40, some (.bool x))] [(0, (.live 26 [(.bool a0.M.Neg), (slK (kInt .u32) a0.M.Mag), (.int .i64 a0.E)])), (1, (.live 26 [(.bool a1.M.Neg), (slK (kInt .u32) a1.M.Mag), (.int .i64 a1.E)]))])) ?_ ?_
      · rintro y15
        dsimp only [astrolaberef05_Cmp_j2]
        refine .seq <| ?_
        refine T.cond_p rfl iff_b (fun h8 h9 => ?_) (fun h8 h9 => ?_)
        · refine .seq <| .region <| .p (fa 0 fl26_0 rfl) <| .p (la ag24 rfl) <| .p (fa 0 fl26_0 rfl) <| .p (la ag24 rfl) <| .bind fun x16 h10 => .p (c0 (astrolaberef04_Cmp_p h10) rfl) <| .p (sg rfl) <| .nil <| .seq <| .ret <| .seq_ret <| fin_1 (.inr rfl) (.nil _) Tryz.results74 (.t rfl) (AVle.refl _)
        · refine .skip <| .seq <| .seq <| .seq <| .draw mixed <| .p (la ag26 rfl) <| .bind fun x17 h11 => .p (c0 (astrolaberef05_size_p h11) rfl) <| .p (la ag26 rfl) <| .bind fun x18 h12 => .p (c0 (astrolaberef05_size_p h12) rfl) <| .p (ar rfl) <| .nil (by kernel_rfl) <| .seq <| ?_
          refine T.cond_p rfl iff_ne (fun h13 h14 => ?_) (fun h13 h14 => ?_)
          · refine .seq <| .seq <| .draw mixed <| .p (la ag26 rfl) <| .bind fun x19 h15 => .p (c0 (astrolaberef05_size_p h15) rfl) <| .p (la ag26 rfl) <| .bind fun x20 h16 => .p (c0 (astrolaberef05_size_p h16) rfl) <| .p (ar rfl) <| .p (fa 0 fl26_0 rfl) <| .p (fa 0 fl24_0 rfl) <| .p (ls sc4 rfl) <| ?_
            refine TD.st 59 (.bool ((decide (x19 < x20)) == a0.M.Neg)) [] (snd_bool_eql _ _ _ _ _ _ rfl Tryz.underlying4 rfl rfl rfl rfl) rfl rfl rfl ?_
            refine .nil (by kernel_rfl) <| .seq <| ?_
            refine T.cond_p rfl iff_b (fun h17 h18 => ?_) (fun h17 h18 => ?_)
            · refine .seq <| .region <| .p (sg rfl) <| .nil <| .seq <| .ret <| .seq_ret <| .seq_ret <| fin_1 (.inr rfl) (.nil _) Tryz.results74 (.t rfl) (AVle.refl _)
            · refine .skip <| .seq <| .seq <| .region <| .p (sg rfl) <| .nil <| .seq <| .ret <| .seq_ret <| fin_1 (.inr rfl) (.nil _) Tryz.results74 (.t rfl) (AVle.refl _)
          · refine .skip <| .seq <| .seq <| .region <| .p (la ag26 rfl) <| .p (la ag26 rfl) <| .bind fun x21 h19 => .p (c0 (astrolaberef05_lift_p h19) rfl) <| .p (mv rfl) <| .p (xt rfl) <| .p (xt rfl) <| .p (xt rfl) <| .w (al 2 ze24 rfl) <| .w (al 3 ze24 rfl) <| ?_
            refine .n (sa ag24 rfl) <| .n (sa ag24 rfl) <| .p (sg rfl) <| .nil <| .seq <| .seq <| .region <| .p (la ag24 rfl) <| .p (la ag24 rfl) <| .bind fun x22 h20 => .p (c0 (astrolaberef04_Cmp_p h20) rfl) <| .p (sg rfl) <| .nil <| .seq <| ?_
            refine .ret <| fin_1 (.inr rfl) (.nil _) Tryz.results74 (.t rfl) (AVle.refl _)
      · intro h21
        refine .region <| .p (fa 0 fl26_0 rfl) <| .p (fa 0 fl24_0 rfl) <| .p (ls sc4 rfl) <| .p (fa 0 fl26_0 rfl) <| .p (fa 0 fl24_0 rfl) <| .p (ls sc4 rfl) <| ?_
        refine TR.st 26 (.bool (a0.M.Neg != a1.M.Neg)) [] (snd_bool_neq _ _ _ _ _ _ rfl Tryz.underlying4 rfl rfl rfl rfl) rfl rfl rfl ?_
        refine .p (mv rfl) <| ?_
        refine TR.gd 27 _ rfl iff_b (fun h22 => ?_) (fun h22 => ?_)
        · refine .k rfl <| .k rfl <| .k rfl <| .k rfl <| .k rfl <| .p (pt rfl) <| .p (mv rfl) <| .k rfl <| .k rfl <| .k rfl <| .k rfl <| .k rfl <| .p (pt rfl) <| .nil <| .weak (h21 true) (jn (m := 0) [(0, 0), (1, 1)] hE (.p rfl rfl <| .p rfl rfl <| .b rfl <| .nil) (.v rfl (.b <| .l <| .i <| .nil) <| .v rfl (.b <| .l <| .i <| .nil) <| .nil) rfl)
        · refine .p (fa 0 fl26_0 rfl) <| .p (fa 1 fl24_1 rfl) <| .p (ls sc22 rfl) <| .p (ln Tryz.underlying22 rfl) <| .p (ar rfl) <| .p (pf rfl) <| .p (mv rfl) <| ?_
          refine TR.gd 34 _ rfl iff_eq (fun h23 => ?_) (fun h23 => ?_)
          · refine .k rfl <| .k rfl <| .k rfl <| .k rfl <| .k rfl <| .p (pt rfl) <| .nil <| .weak (h21 true) (jn (m := 0) [(0, 0), (1, 1)] hE (.p rfl rfl <| .p rfl rfl <| .b rfl <| .nil) (.v rfl (.b <| .l <| .i <| .nil) <| .v rfl (.b <| .l <| .i <| .nil) <| .nil) rfl)
          · refine .p (fa 0 fl26_0 rfl) <| .p (fa 1 fl24_1 rfl) <| .p (ls sc22 rfl) <| .p (ln Tryz.underlying22 rfl) <| .p (ar rfl) <| .p (pf rfl) <| .nil <| .weak (h21 ((a1.M.Mag.length : Int) == 0)) (jn (m := 0) [(0, 0), (1, 1)] hE (.p rfl rfl <| .p rfl rfl <| .b rfl <| .nil) (.v rfl (.b <| .l <| .i <| .nil) <| .v rfl (.b <| .l <| .i <| .nil) <| .nil) rfl)
  · intro h24
    refine .region <| .p (mv rfl) <| .p (un rfl) <| .p (mv rfl) <| ?_
    refine TR.gd 16 _ rfl iff_nb (fun h25 => ?_) (fun h25 => ?_)
    · refine .k rfl <| .k rfl <| .p (pt rfl) <| .nil <| .weak (h24 true) (jn (m := 0) [(0, 0), (1, 1)] hE (.p rfl rfl <| .p rfl rfl <| .b rfl <| .nil) (.v rfl (.b <| .l <| .i <| .nil) <| .v rfl (.b <| .l <| .i <| .nil) <| .nil) rfl)
    · refine .p (mv rfl) <| .p (un rfl) <| .p (pf rfl) <| .nil <| .weak (h24 (!x13)) (jn (m := 0) [(0, 0), (1, 1)] hE (.p rfl rfl <| .p rfl rfl <| .b rfl <| .nil) (.v rfl (.b <| .l <| .i <| .nil) <| .v rfl (.b <| .l <| .i <| .nil) <| .nil) rfl)
theorem astrolaberef05_Cmp_p {a0 : ApiDy} {a1 : ApiDy} {r : Int} (h : astrolaberef05_Cmp a0 a1 = some r) : Pur Tryz.prog 74 [(.agg (kApiDy.enc a0)), (.agg (kApiDy.enc a1))] (.int .i64 r) := ⟨⟨_, Tryz.func74, nm74, rfl⟩, astrolaberef05_Cmp_c a0 a1 _ h, fun _ => (.a kApiDy <| .a kApiDy <| .nil), fun _ => (.int _ _)⟩

theorem astrolabelaw06_span_c (a0 : ApiDy) (a1 : ApiDy) : ∀ r, astrolabelaw06_span a0 a1 = some r → ACalls Tryz.prog 17 [(.agg (kApiDy.enc a0)), (.agg (kApiDy.enc a1))] (lw []) (.agg (kApiIv.enc (⟨⟨(((r).Lo).M), ((r).Lo).E⟩, ⟨(((r).Hi).M), ((r).Hi).E⟩⟩ : ApiIv))) (ld []) := by
  unfold astrolabelaw06_span
  refine go 0 Tryz.func17 Tryz.ntmps17 rfl ?_
  intro E hE
  refine .seq <| .region <| .w (bx 0 rfl) <| .w (bx 1 rfl) <| .w (al 2 ze34 rfl) <| .nil <| .seq <| .seq <| .region <| .p (la ag26 rfl) <| .bind fun x10 h1 => .p (c0 (astrolabelaw06_tame_p h1) rfl) <| .w (al 3 ze26 rfl) <| .n (sa ag26 rfl) <| ?_
  refine .nil <| .seq <| .seq <| .region <| .p (la ag26 rfl) <| .bind fun x11 h2 => .p (c0 (astrolabelaw06_tame_p h2) rfl) <| .w (al 4 ze26 rfl) <| .n (sa ag26 rfl) <| .nil <| .seq <| .seq <| .seq <| .region <| ?_
  refine .p (la ag26 rfl) <| .p (la ag26 rfl) <| .bind fun x12 h3 => .p (c0 (astrolaberef05_Cmp_p h3) rfl) <| .p (ar rfl) <| .nil <| .seq <| ?_
  refine T.cut (X := Bool × (List Int) × Int × Bool × (List Int) × Int) (fun x => astrolabelaw06_span_j1 x.1 x.2.1 x.2.2.1 x.2.2.2.1 x.2.2.2.2.1 x.2.2.2.2.2) (fun x => (mkS [(4, some (.ptr 2 0)), (5, some (.ptr 3 0)), (6, some (.ptr 4 0))] [(2, (.live 34 [(.bool false), (slK (kInt .u32) []), (.int .i64 0), (.bool false), (slK (kInt .u32) []), (.int .i64 0)])), (3, (.live 26 [(.bool x.1), (slK (kInt .u32) x.2.1), (.int .i64 x.2.2.1)])), (4, (.live 26 [(.bool x.2.2.2.1), (slK (kInt .u32) x.2.2.2.2.1), (.int .i64 x.2.2.2.2.2)]))])) ?_ ?_
  · rintro ⟨y13, y14, y15, y16, y17, y18⟩
    dsimp only [astrolabelaw06_span_j1]
    refine .seq <| .seq <| .region <| .p (la ag26 rfl) <| .p (la ag26 rfl) <| .p (bd ze34 pl34 rfl) <| .n (sa ag34 rfl) <| .nil <| .seq <| .ret <| fin_1 (.inr rfl) (.nil _) Tryz.results17 (.a ag34 rfl) (AVle.refl _)
  · intro h6
    refine T.cond_p rfl iff_dec (fun h7 h8 => ?_) (fun h7 h8 => ?_)
    · refine .region <| .p (la ag26 rfl) <| .p (la ag26 rfl) <| .n (sa ag26 rfl) <| .n (sa ag26 rfl) <| .nil <| .weak (h6 (((x11).M).Neg, ((x11).M).Mag, (x11).E, ((x10).M).Neg, ((x10).M).Mag, (x10).E)) (jn (m := 0) [(2, 2), (3, 3), (4, 4)] hE (.p rfl rfl <| .p rfl rfl <| .p rfl rfl <| .nil) (.v rfl (.b <| .l <| .i <| .b <| .l <| .i <| .nil) <| .v rfl (.b <| .l <| .i <| .nil) <| .v rfl (.b <| .l <| .i <| .nil) <| .nil) rfl)
    · refine .skip <| .weak (h6 (((x10).M).Neg, ((x10).M).Mag, (x10).E, ((x11).M).Neg, ((x11).M).Mag, (x11).E)) (jn (m := 0) [(2, 2), (3, 3), (4, 4)] hE (.p rfl rfl <| .p rfl rfl <| .p rfl rfl <| .nil) (.v rfl (.b <| .l <| .i <| .b <| .l <| .i <| .nil) <| .v rfl (.b <| .l <| .i <| .nil) <| .v rfl (.b <| .l <| .i <| .nil) <| .nil) rfl)
theorem astrolabelaw06_span_p {a0 : ApiDy} {a1 : ApiDy} {r : ApiIv} (h : astrolabelaw06_span a0 a1 = some r) : Pur Tryz.prog 17 [(.agg (kApiDy.enc a0)), (.agg (kApiDy.enc a1))] (.agg (kApiIv.enc (⟨⟨(((r).Lo).M), ((r).Lo).E⟩, ⟨(((r).Hi).M), ((r).Hi).E⟩⟩ : ApiIv))) := ⟨⟨_, Tryz.func17, nm17, rfl⟩, astrolabelaw06_span_c a0 a1 _ h, fun _ => (.a kApiDy <| .a kApiDy <| .nil), fun _ => (ren_agg (K := kApiIv) _)⟩

theorem iv_Calc_Hull_c (a0 : List ApiIv) (a1 : Int) (a2 : Int) : ∀ r, iv_Calc_Hull a0 a1 a2 = some r → ACalls Tryz.prog 31 [(.ptr 0 0), (slK kApiIv a0)] (lw [(.live 45 [(.int .i64 a1), (.int .i64 a2)])]) (.agg (kApiIv.enc (⟨⟨(((r.1).Lo).M), ((r.1).Lo).E⟩, ⟨(((r.1).Hi).M), ((r.1).Hi).E⟩⟩ : ApiIv))) (ld [(.live 45 [(.int .i64 r.2), (.int .i64 a2)])]) := by
  unfold iv_Calc_Hull
  refine go 1 Tryz.func31 Tryz.ntmps31 rfl ?_
  intro E hE
  refine .seq <| .region <| .w (al 1 ze34 rfl) <| .nil <| .seq <| .seq <| .seq <| .region <| .p (mv rfl) <| .p (ln Tryz.underlying104 rfl) <| .p (ar rfl) <| .nil <| .seq <| ?_
  refine T.cut (X := Int) (fun x => iv_Calc_Hull_j1 a0 a2 x) (fun x => (mkS [(0, some (.ptr 0 0)), (1, some (slK kApiIv a0)), (4, some (.ptr 1 0))] [(0, (.live 45 [(.int .i64 x), (.int .i64 a2)])), (1, (.live 34 [(.bool false), (slK (kInt .u32) []), (.int .i64 0), (.bool false), (slK (kInt .u32) []), (.int .i64 0)]))])) ?_ ?_
  · rintro y16
    dsimp only [iv_Calc_Hull_j1]
    refine .seq <| .seq <| .seq <| .region <| .p (mv rfl) <| .p (mv rfl) <| .bind fun x17 h4 => .w (cl (iv_Calc_fine_k h4) [0] [] [true] rfl (.p rfl <| .l <| .nil) (.p rfl (.i <| .i <| .nil) .nil) fresh_nil (.cons (.v (.i <| .i <| .nil)) .nil) (.bool _) (.turned .nil) rfl) <| .p (un rfl) <| .nil <| .seq <| ?_
    refine T.cond_p rfl iff_nb (fun h5 h6 => ?_) (fun h5 h6 => ?_)
    · refine .seq <| .region <| .p (bd ze34 pl34 rfl) <| .n (sa ag34 rfl) <| .nil <| .seq <| .ret <| .seq_ret <| fin_1 (.inr rfl) (.k rfl (.nil _)) Tryz.results31 (.a ag34 rfl) (AVle.refl _)
    · refine .skip <| .seq <| .seq <| .region <| .p (sg rfl) <| .nil <| .seq <| .seq <| .seq <| .region <| .p (mv rfl) <| .p (ln Tryz.underlying104 rfl) <| .p (mv rfl) <| .nil <| ?_
      refine .seq <| ?_
      refine T.cut (X := (List ApiDy)) (fun x => iv_Calc_Hull_j2 x17 x) (fun x => (mkS [(4, some (.ptr 1 0)), (5, some (grA kApiDy 2 x))] [(0, (.live 45 [(.int .i64 x17.2), (.int .i64 a2)])), (1, (.live 34 [(.bool false), (slK (kInt .u32) []), (.int .i64 0), (.bool false), (slK (kInt .u32) []), (.int .i64 0)])), (2, (grV kApiDy 26 x))])) ?_ ?_
      · rintro y22
        dsimp only [iv_Calc_Hull_j2]
        refine .seq <| .seq <| ?_
        refine T.weak ?_ (fun a w h => Conc.gr_still kApiDy h 5 2 26 y22 rfl rfl)
        refine .region <| .p (mv rfl) <| .bind fun x23 h25 => .p (c0 (iv_ends_p h25) rfl) <| .p (mv rfl) <| .p (xt rfl) <| .p (xt rfl) <| .w (al 3 ze26 rfl) <| .w (al 4 ze26 rfl) <| .n (sa ag26 rfl) <| .n (sa ag26 rfl) <| .nil <| .seq <| .seq <| ?_
        refine .region <| .p (la ag26 rfl) <| .p (la ag26 rfl) <| .p (bd ze34 pl34 rfl) <| .n (sa ag34 rfl) <| .nil <| .seq <| .ret <| fin_1 (.inr rfl) (.k rfl (.nil _)) Tryz.results31 (.a ag34 rfl) (AVle.refl _)
      · intro h26
        refine .block <| ?_
        refine T.weak ?_ (fun a w h => Conc.gr_nil kApiDy h 5 2 26 rfl)
        refine .loopW (X := Int × (List ApiDy)) (fun n x => iv_Calc_Hull_l3 a0 x17 n x.1 x.2) (fun x => (mkS [(4, some (.ptr 1 0)), (5, some (grA kApiDy 2 x.2)), (22, some (slK kApiIv a0)), (23, some (.int .i64 (a0.length : Int))), (24, some (.int .i64 x.1))] [(0, (.live 45 [(.int .i64 x17.2), (.int .i64 a2)])), (1, (.live 34 [(.bool false), (slK (kInt .u32) []), (.int .i64 0), (.bool false), (slK (kInt .u32) []), (.int .i64 0)])), (2, (grV kApiDy 26 x.2))])) (0, []) (jn (m := 1) [(0, 0), (1, 1), (2, 2)] hE (.p rfl rfl <| .g rfl (ren_gr (K := kApiDy) (by rfl) []) <| .l rfl <| .i rfl <| .i rfl <| .nil) (.v rfl (.i <| .i <| .nil) <| .v rfl (.b <| .l <| .i <| .b <| .l <| .i <| .nil) <| .cons (.refl _) (renV_gr (K := kApiDy) 26 []) <| .nil) rfl) (fun _ => rfl) rfl <| ?_
        rintro n3 ⟨y26, y27⟩
        try dsimp only
        rw [iv_Calc_Hull_l3]
        refine .seq <| .region <| .p (ar rfl) <| .nil <| .seq <| .seq <| ?_
        refine T.cond_p rfl iff_dec (fun h39 h40 => ?_) (fun h39 h40 => ?_)
        · refine .skip <| .seq <| .seq <| .block <| .seq <| .region <| .guard fun h43 => ?_
          refine TR.st 26 (.iptr [(.bool ((((a0.getD y26.toNat zApiIv).Lo).M).Neg)), (slK (kInt .u32) ((((a0.getD y26.toNat zApiIv).Lo).M).Mag)), (.int .i64 (((a0.getD y26.toNat zApiIv).Lo).E)), (.bool ((((a0.getD y26.toNat zApiIv).Hi).M).Neg)), (slK (kInt .u32) ((((a0.getD y26.toNat zApiIv).Hi).M).Mag)), (.int .i64 (((a0.getD y26.toNat zApiIv).Hi).E))]) [] (snd_indexK kApiIv _ _ _ _ _ _ y26 rfl Tryz.underlying104 si34 rfl rfl rfl rfl h43) rfl rfl rfl ?_
          refine .p (lai ag34 rfl) <| .w (al 3 ze34 rfl) <| .n (sa ag34 rfl) <| .nil <| .seq <| .region <| .p (mv rfl) <| .p (fa 0 fl34_0 rfl) <| .p (la ag26 rfl) <| .p (fa 3 fl34_1 rfl) <| .p (la ag26 rfl) <| ?_
          refine TR.st 33 (slK kApiDy [(⟨(((a0.getD y26.toNat zApiIv).Lo).M), ((a0.getD y26.toNat zApiIv).Lo).E⟩ : ApiDy), (⟨(((a0.getD y26.toNat zApiIv).Hi).M), ((a0.getD y26.toNat zApiIv).Hi).E⟩ : ApiDy)]) [] (snd_buildSlice _ _ _ 3 _ _ [(0, (.agg (kApiDy.enc (⟨(((a0.getD y26.toNat zApiIv).Lo).M), ((a0.getD y26.toNat zApiIv).Lo).E⟩ : ApiDy)))), (1, (.agg (kApiDy.enc (⟨(((a0.getD y26.toNat zApiIv).Hi).M), ((a0.getD y26.toNat zApiIv).Hi).E⟩ : ApiDy))))] (List.map kApiDy.enc [(⟨(((a0.getD y26.toNat zApiIv).Lo).M), ((a0.getD y26.toNat zApiIv).Lo).E⟩ : ApiDy), (⟨(((a0.getD y26.toNat zApiIv).Hi).M), ((a0.getD y26.toNat zApiIv).Hi).E⟩ : ApiDy)]) rfl Tryz.underlying96 ze26 si26 rfl rfl rfl (by decide) (by decide) (by decide) rfl rfl (Kd.even _) rfl) rfl rfl rfl ?_
          refine .guard fun h44 => ?_
          refine TR.st 34 (.row 4 kApiDy.sz 0 (((y27 ++ [(⟨(((a0.getD y26.toNat zApiIv).Lo).M), ((a0.getD y26.toNat zApiIv).Lo).E⟩ : ApiDy), (⟨(((a0.getD y26.toNat zApiIv).Hi).M), ((a0.getD y26.toNat zApiIv).Hi).E⟩ : ApiDy)])).length)) [(4, (rwK kApiDy 26 (y27 ++ [(⟨(((a0.getD y26.toNat zApiIv).Lo).M), ((a0.getD y26.toNat zApiIv).Lo).E⟩ : ApiDy), (⟨(((a0.getD y26.toNat zApiIv).Hi).M), ((a0.getD y26.toNat zApiIv).Hi).E⟩ : ApiDy)]))), (2, .dead)] (snd_appendK_gr kApiDy _ _ _ _ _ 2 4 y27 [(⟨(((a0.getD y26.toNat zApiIv).Lo).M), ((a0.getD y26.toNat zApiIv).Lo).E⟩ : ApiDy), (⟨(((a0.getD y26.toNat zApiIv).Hi).M), ((a0.getD y26.toNat zApiIv).Hi).E⟩ : ApiDy)] rfl Tryz.underlying96 ze26 sb26 rfl rfl rfl rfl rfl rfl rfl h44) rfl rfl rfl ?_
          refine .p (sg rfl) <| .nil <| .block <| .seq <| .region <| .p (ar rfl) <| .p (mv rfl) <| .nil <| ?_
          refine TQ.weak ?_ (fun a w h => Conc.gr_row kApiDy h 5 4 26 (y27 ++ [(⟨(((a0.getD y26.toNat zApiIv).Lo).M), ((a0.getD y26.toNat zApiIv).Lo).E⟩ : ApiDy), (⟨(((a0.getD y26.toNat zApiIv).Hi).M), ((a0.getD y26.toNat zApiIv).Hi).E⟩ : ApiDy)]) rfl rfl (by first | omega | (simp only [List.length_append, List.length_cons, List.length_set]; omega) | simp))
          exact TQ.again ((IntKind.i64.wrap (y26 + 1)), (y27 ++ [(⟨(((a0.getD y26.toNat zApiIv).Lo).M), ((a0.getD y26.toNat zApiIv).Lo).E⟩ : ApiDy), (⟨(((a0.getD y26.toNat zApiIv).Hi).M), ((a0.getD y26.toNat zApiIv).Hi).E⟩ : ApiDy)])) (jn (m := 1) [(0, 0), (1, 1), (4, 2)] hE (.p rfl rfl <| .g rfl (ren_gr (K := kApiDy) (by rfl) (y27 ++ [(⟨(((a0.getD y26.toNat zApiIv).Lo).M), ((a0.getD y26.toNat zApiIv).Lo).E⟩ : ApiDy), (⟨(((a0.getD y26.toNat zApiIv).Hi).M), ((a0.getD y26.toNat zApiIv).Hi).E⟩ : ApiDy)])) <| .l rfl <| .i rfl <| .i rfl <| .nil) (.v rfl (.i <| .i <| .nil) <| .v rfl (.b <| .l <| .i <| .b <| .l <| .i <| .nil) <| .cons (.refl _) (renV_gr (K := kApiDy) 26 (y27 ++ [(⟨(((a0.getD y26.toNat zApiIv).Lo).M), ((a0.getD y26.toNat zApiIv).Lo).E⟩ : ApiDy), (⟨(((a0.getD y26.toNat zApiIv).Hi).M), ((a0.getD y26.toNat zApiIv).Hi).E⟩ : ApiDy)])) <| .nil) rfl) rfl
        · refine .exit <| .seq_exit <| .loop_exit <| .block_exit <| .weak (h26 y27) (jn (m := 1) [(0, 0), (1, 1), (2, 2)] hE (.p rfl rfl <| .g rfl (ren_gr (K := kApiDy) (by rfl) y27) <| .nil) (.v rfl (.i <| .i <| .nil) <| .v rfl (.b <| .l <| .i <| .b <| .l <| .i <| .nil) <| .cons (.refl _) (renV_gr (K := kApiDy) 26 y27) <| .nil) rfl)
  · intro h45
    refine T.cond_p rfl iff_eq (fun h46 h47 => ?_) (fun h46 h47 => ?_)
    · refine .region <| .p (mv rfl) <| .p (nc rfl) <| .p (fa 0 fl45_0 rfl) <| .bind fun x28 h48 => .w (cl (iv_trouble_note_k h48) [0] [] [true] rfl (.p rfl <| .i <| .nil) (.p rfl (.i <| .i <| .nil) .nil) fresh_nil (.cons (.v (.i <| .i <| .nil)) .nil) (.bool _) (.turned .nil) rfl) <| .nil <| .weak (h45 x28.2) (jn (m := 1) [(0, 0), (1, 1)] hE (.p rfl rfl <| .l rfl <| .p rfl rfl <| .nil) (.v rfl (.i <| .i <| .nil) <| .v rfl (.b <| .l <| .i <| .b <| .l <| .i <| .nil) <| .nil) rfl)
    · refine .skip <| .weak (h45 a1) (jn (m := 1) [(0, 0), (1, 1)] hE (.p rfl rfl <| .l rfl <| .p rfl rfl <| .nil) (.v rfl (.i <| .i <| .nil) <| .v rfl (.b <| .l <| .i <| .b <| .l <| .i <| .nil) <| .nil) rfl)
theorem iv_Calc_Hull_k {a0 : List ApiIv} {a1 : Int} {a2 : Int} {r : ApiIv × Int} (h : iv_Calc_Hull a0 a1 a2 = some r) : Cal Tryz.prog 31 [(.ptr 0 0), (slK kApiIv a0)] [(.live 45 [(.int .i64 a1), (.int .i64 a2)])] (.agg (kApiIv.enc (⟨⟨(((r.1).Lo).M), ((r.1).Lo).E⟩, ⟨(((r.1).Hi).M), ((r.1).Hi).E⟩⟩ : ApiIv))) [(.live 45 [(.int .i64 r.2), (.int .i64 a2)])] := ⟨⟨_, Tryz.func31, nm31, rfl⟩, iv_Calc_Hull_c a0 a1 a2 _ h⟩

theorem nat_Mul_c (a0 : List Int) (a1 : List Int) : ∀ r, nat_Mul a0 a1 = some r → ACalls Tryz.prog 81 [(slK (kInt .u32) a0), (slK (kInt .u32) a1)] (lw []) (slK (kInt .u32) r) (ld []) := by
  unfold nat_Mul
  refine go 0 Tryz.func81 Tryz.ntmps81 rfl ?_
  intro E hE
  refine .seq <| .region <| ?_
  refine TR.st 4 (slK (kInt .u32) []) [] (Snd.le (snd_assign _ _ rfl rfl rfl rfl) AVle.nil) rfl rfl rfl ?_
  refine .nil <| .seq <| .seq <| .region <| .p (mv rfl) <| .bind fun x187 h1 => .p (c0 (nat_trim_p h1) rfl) <| .p (mv rfl) <| .bind fun x188 h2 => .p (c0 (nat_trim_p h2) rfl) <| .p (sg rfl) <| .p (sg rfl) <| .nil <| .seq <| ?_
  refine .seq <| .region <| .p (mv rfl) <| .p (ln Tryz.underlying22 rfl) <| .p (mv rfl) <| .p (ln Tryz.underlying22 rfl) <| .p (ar rfl) <| .guard fun h3 => ?_
  refine TR.st 21 (.row 0 (kInt .u32).sz 0 (((List.replicate ((IntKind.i64.wrap ((x187.length : Int) + (x188.length : Int))).toNat) (kInt .u32).z)).length)) [(0, (rwK (kInt .u32) 77 (List.replicate ((IntKind.i64.wrap ((x187.length : Int) + (x188.length : Int))).toNat) (kInt .u32).z)))] (snd_makeK (kInt .u32) _ _ _ _ _ 0 _ _ _ rfl Tryz.underlying22 ze77 sb77 (by decide) rfl rfl rfl rfl rfl h3) rfl rfl rfl ?_
  refine .p (sg rfl) <| .nil <| .seq <| .seq <| .seq <| .region <| .p (mv rfl) <| .p (ln Tryz.underlying22 rfl) <| .p (mv rfl) <| .nil <| .seq <| ?_
  refine T.cut (X := (List Int)) (fun x => nat_Mul_j1 x) (fun x => (mkS [(5, some (.row 0 (kInt .u32).sz 0 ((x).length)))] [(0, (rwK (kInt .u32) 77 x))])) ?_ ?_
  · rintro y280
    dsimp only [nat_Mul_j1]
    refine .seq <| .seq <| ?_
    refine T.weak ?_ (fun a w h => Conc.freezeK (kInt .u32) h 5 0 0 ((y280).length) 77 y280 rfl rfl (by omega))
    refine T.weak ?_ (fun a w h => take_all h)
    refine .region <| .p (mv rfl) <| .bind fun x281 h310 => .p (c0 (nat_trim_p h310) rfl) <| .p (sg rfl) <| .nil <| .seq <| .ret <| fin_1 (.inr rfl) (.nil _) Tryz.results81 (.t rfl) (AVle.refl _)
  · intro h311
    refine .block <| .loopW (X := Int × (List Int)) (fun n x => nat_Mul_l2 x187 x188 n x.1 x.2) (fun x => (mkS [(1, some (slK (kInt .u32) x188)), (5, some (.row 0 (kInt .u32).sz 0 ((x.2).length))), (22, some (slK (kInt .u32) x187)), (23, some (.int .i64 (x187.length : Int))), (24, some (.int .i64 x.1))] [(0, (rwK (kInt .u32) 77 x.2))])) (0, (List.replicate ((IntKind.i64.wrap ((x187.length : Int) + (x188.length : Int))).toNat) (kInt .u32).z)) (jn (m := 0) [(0, 0)] hE (.l rfl <| .g rfl (.row _ _ _ _ _ rfl) <| .l rfl <| .i rfl <| .i rfl <| .nil) (.cons (.refl _) (renV_rw _ _) <| .nil) rfl) (fun _ => rfl) rfl <| ?_
    rintro n2 ⟨y342, y343⟩
    try dsimp only
    rw [nat_Mul_l2]
    refine .seq <| .region <| .p (ar rfl) <| .nil <| .seq <| .seq <| ?_
    refine T.cond_p rfl iff_dec (fun h516 h517 => ?_) (fun h516 h517 => ?_)
    · refine .skip <| .seq <| .seq <| ?_
      refine T.cut (X := (List Int)) (fun x => nat_Mul_j3 (fun z0 z1 => nat_Mul_l2 x187 x188 n2 z0 z1) y342 x) (fun x => (mkS [(1, some (slK (kInt .u32) x188)), (5, some (.row 0 (kInt .u32).sz 0 ((x).length))), (22, some (slK (kInt .u32) x187)), (23, some (.int .i64 (x187.length : Int))), (24, some (.int .i64 y342))] [(0, (rwK (kInt .u32) 77 x))])) ?_ ?_
      · rintro y358
        dsimp only [nat_Mul_j3]
        refine .seq <| .region <| .p (ar rfl) <| .p (mv rfl) <| .nil <| .again ((IntKind.i64.wrap (y342 + 1)), y358) (jn (m := 0) [(0, 0)] hE (.l rfl <| .g rfl (.row _ _ _ _ _ rfl) <| .l rfl <| .i rfl <| .i rfl <| .nil) (.cons (.refl _) (renV_rw _ _) <| .nil) rfl) rfl
      · intro h568
        refine .block <| .seq <| .region <| .p (mv rfl) <| .guard fun h569 => ?_
        refine TR.st 27 (.iptr [(.int .u32 (x187.getD y342.toNat (kInt .u32).z))]) [] (snd_indexK (kInt .u32) _ _ _ _ _ _ y342 rfl Tryz.underlying22 si77 rfl rfl rfl rfl h569) rfl rfl rfl ?_
        refine .p (lsi sc77 rfl) <| .p (sg rfl) <| .p (sg rfl) <| .nil <| .seq <| .seq <| .region <| .p (sg rfl) <| .nil <| .seq <| .seq <| .seq <| .region <| .p (mv rfl) <| ?_
        refine .p (ln Tryz.underlying22 rfl) <| .p (mv rfl) <| .nil <| .seq <| ?_
        refine T.cut (X := Int × (List Int)) (fun x => nat_Mul_j4 y342 x188 (fun z0 z1 => nat_Mul_l2 x187 x188 n2 z0 z1) x.1 x.2) (fun x => (mkS [(1, some (slK (kInt .u32) x188)), (5, some (.row 0 (kInt .u32).sz 0 ((x.2).length))), (6, some (.int .i64 y342)), (8, some (.int .u64 x.1)), (22, some (slK (kInt .u32) x187)), (23, some (.int .i64 (x187.length : Int))), (24, some (.int .i64 y342))] [(0, (rwK (kInt .u32) 77 x.2))])) ?_ ?_
        · rintro ⟨y365, y366⟩
          dsimp only [nat_Mul_j4]
          refine .seq <| .region <| .p (mv rfl) <| .p (mv rfl) <| .p (mv rfl) <| .p (ln Tryz.underlying22 rfl) <| .p (ar rfl) <| .p (mv rfl) <| .p (cv Tryz.underlying117 Tryz.underlying77 rfl) <| .guard fun h594 => ?_
          obtain ⟨h5941, h5942⟩ := h594
          refine TR.st 68 (.rptr 0 (kInt .u32).sz ((IntKind.i64.wrap (y342 + (x188.length : Int))).toNat) 0) [] (idx_r (snd_index_r _ _ _ _ _ 0 0 ((y366).length) _ (IntKind.i64.wrap (y342 + (x188.length : Int))) rfl Tryz.underlying22 si77 rfl rfl rfl rfl h5941 (by omega)) (Nat.zero_add _)) rfl rfl rfl ?_
          refine TR.sn [(0, (rwK (kInt .u32) 77 ((y366).set ((IntKind.i64.wrap (y342 + (x188.length : Int))).toNat) (IntKind.u32.wrap y365))))] (snd_storeK_sca (kInt .u32) _ _ _ 0 ((IntKind.i64.wrap (y342 + (x188.length : Int))).toNat) _ _ (IntKind.u32.wrap y365) _ rfl rfl rfl sc77 rfl rfl rfl rfl rfl rfl (by first | omega | (simp only [List.length_set]; omega))) rfl rfl ?_
          refine TR.weak ?_ (fun a w h => Conc.relen h 5 ((((y366).set ((IntKind.i64.wrap (y342 + (x188.length : Int))).toNat) (IntKind.u32.wrap y365))).length) rfl List.length_set.symm)
          refine .nil <| .block <| .weak (h568 ((y366).set ((IntKind.i64.wrap (y342 + (x188.length : Int))).toNat) (IntKind.u32.wrap y365))) (jn (m := 0) [(0, 0)] hE (.l rfl <| .g rfl (.row _ _ _ _ _ rfl) <| .l rfl <| .i rfl <| .i rfl <| .nil) (.cons (.refl _) (renV_rw _ _) <| .nil) rfl)
        · intro h595
          refine .block <| .loopW (X := Int × Int × (List Int)) (fun n x => nat_Mul_l5 x188 y342 x187 (fun z0 z1 => nat_Mul_l2 x187 x188 n2 z0 z1) n x.1 x.2.1 x.2.2) (fun x => (mkS [(1, some (slK (kInt .u32) x188)), (5, some (.row 0 (kInt .u32).sz 0 ((x.2.2).length))), (6, some (.int .i64 y342)), (7, some (.int .u32 (x187.getD y342.toNat (kInt .u32).z))), (8, some (.int .u64 x.1)), (22, some (slK (kInt .u32) x187)), (23, some (.int .i64 (x187.length : Int))), (24, some (.int .i64 y342)), (29, some (slK (kInt .u32) x188)), (30, some (.int .i64 (x188.length : Int))), (31, some (.int .i64 x.2.1))] [(0, (rwK (kInt .u32) 77 x.2.2))])) (0, 0, y343) (jn (m := 0) [(0, 0)] hE (.l rfl <| .g rfl (.row _ _ _ _ _ rfl) <| .i rfl <| .i rfl <| .i rfl <| .l rfl <| .i rfl <| .i rfl <| .l rfl <| .i rfl <| .i rfl <| .nil) (.cons (.refl _) (renV_rw _ _) <| .nil) rfl) (fun _ => rfl) rfl <| ?_
          rintro n5 ⟨y370, y371, y372⟩
          try dsimp only
          rw [nat_Mul_l5]
          refine .seq <| .region <| .p (ar rfl) <| .nil <| .seq <| .seq <| ?_
          refine T.cond_p rfl iff_dec (fun h612 h613 => ?_) (fun h612 h613 => ?_)
          · refine .skip <| .seq <| .seq <| .block <| .seq <| .region <| .p (mv rfl) <| .guard fun h617 => ?_
            refine TR.st 34 (.iptr [(.int .u32 (x188.getD y371.toNat (kInt .u32).z))]) [] (snd_indexK (kInt .u32) _ _ _ _ _ _ y371 rfl Tryz.underlying22 si77 rfl rfl rfl rfl h617) rfl rfl rfl ?_
            refine .p (lsi sc77 rfl) <| .p (sg rfl) <| .p (sg rfl) <| .nil <| .seq <| .seq <| .region <| .p (mv rfl) <| .p (cv Tryz.underlying77 Tryz.underlying117 rfl) <| .p (mv rfl) <| .p (cv Tryz.underlying77 Tryz.underlying117 rfl) <| .p (ar rfl) <| .p (mv rfl) <| .p (mv rfl) <| ?_
            refine .p (mv rfl) <| .p (ar rfl) <| .guard fun h618 => ?_
            obtain ⟨h6181, h6182⟩ := h618
            refine TR.st 45 (.rptr 0 (kInt .u32).sz ((IntKind.i64.wrap (y342 + y371)).toNat) 0) [] (idx_r (snd_index_r _ _ _ _ _ 0 0 ((y372).length) _ (IntKind.i64.wrap (y342 + y371)) rfl Tryz.underlying22 si77 rfl rfl rfl rfl h6181 (by omega)) (Nat.zero_add _)) rfl rfl rfl ?_
            refine TR.st 46 (.int .u32 ((y372).getD ((IntKind.i64.wrap (y342 + y371)).toNat) (kInt .u32).z)) [] (snd_loadK_sca (kInt .u32) _ _ 0 ((IntKind.i64.wrap (y342 + y371)).toNat) 0 _ _ rfl sc77 rfl rfl rfl rfl (by first | omega | (simp only [List.length_set]; omega)) (by decide)) rfl rfl rfl ?_
            refine .p (cv Tryz.underlying77 Tryz.underlying117 rfl) <| .p (ar rfl) <| .p (mv rfl) <| .p (ar rfl) <| .p (sg rfl) <| .nil <| .seq <| .region <| .p (mv rfl) <| .p (mv rfl) <| .p (mv rfl) <| .p (ar rfl) <| .p (mv rfl) <| .p (cv Tryz.underlying117 Tryz.underlying77 rfl) <| ?_
            refine .p (mv rfl) <| ?_
            refine TR.st 58 (.int .u64 (shrI .u64 (IntKind.u64.wrap ((IntKind.u64.wrap ((IntKind.u64.wrap ((IntKind.u64.wrap (x187.getD y342.toNat (kInt .u32).z)) * (IntKind.u64.wrap (x188.getD y371.toNat (kInt .u32).z)))) + (IntKind.u64.wrap ((y372).getD ((IntKind.i64.wrap (y342 + y371)).toNat) (kInt .u32).z)))) + y370)) 32)) [] (snd_shr _ _ _ _ _ _ _ _ rfl rfl rfl rfl rfl (by decide)) rfl rfl rfl ?_
            refine .guard fun h619 => ?_
            obtain ⟨h6191, h6192⟩ := h619
            refine TR.st 59 (.rptr 0 (kInt .u32).sz ((IntKind.i64.wrap (y342 + y371)).toNat) 0) [] (idx_r (snd_index_r _ _ _ _ _ 0 0 ((y372).length) _ (IntKind.i64.wrap (y342 + y371)) rfl Tryz.underlying22 si77 rfl rfl rfl rfl h6191 (by omega)) (Nat.zero_add _)) rfl rfl rfl ?_
            refine TR.sn [(0, (rwK (kInt .u32) 77 ((y372).set ((IntKind.i64.wrap (y342 + y371)).toNat) (IntKind.u32.wrap (IntKind.u64.wrap ((IntKind.u64.wrap ((IntKind.u64.wrap ((IntKind.u64.wrap (x187.getD y342.toNat (kInt .u32).z)) * (IntKind.u64.wrap (x188.getD y371.toNat (kInt .u32).z)))) + (IntKind.u64.wrap ((y372).getD ((IntKind.i64.wrap (y342 + y371)).toNat) (kInt .u32).z)))) + y370))))))] (snd_storeK_sca (kInt .u32) _ _ _ 0 ((IntKind.i64.wrap (y342 + y371)).toNat) _ _ (IntKind.u32.wrap (IntKind.u64.wrap ((IntKind.u64.wrap ((IntKind.u64.wrap ((IntKind.u64.wrap (x187.getD y342.toNat (kInt .u32).z)) * (IntKind.u64.wrap (x188.getD y371.toNat (kInt .u32).z)))) + (IntKind.u64.wrap ((y372).getD ((IntKind.i64.wrap (y342 + y371)).toNat) (kInt .u32).z)))) + y370))) _ rfl rfl rfl sc77 rfl rfl rfl rfl rfl rfl (by first | omega | (simp only [List.length_set]; omega))) rfl rfl ?_
            refine TR.weak ?_ (fun a w h => Conc.relen h 5 ((((y372).set ((IntKind.i64.wrap (y342 + y371)).toNat) (IntKind.u32.wrap (IntKind.u64.wrap ((IntKind.u64.wrap ((IntKind.u64.wrap ((IntKind.u64.wrap (x187.getD y342.toNat (kInt .u32).z)) * (IntKind.u64.wrap (x188.getD y371.toNat (kInt .u32).z)))) + (IntKind.u64.wrap ((y372).getD ((IntKind.i64.wrap (y342 + y371)).toNat) (kInt .u32).z)))) + y370))))).length) rfl List.length_set.symm)
            refine .p (sg rfl) <| .nil <| .block <| .seq <| .region <| .p (ar rfl) <| .p (mv rfl) <| .nil <| .again ((shrI .u64 (IntKind.u64.wrap ((IntKind.u64.wrap ((IntKind.u64.wrap ((IntKind.u64.wrap (x187.getD y342.toNat (kInt .u32).z)) * (IntKind.u64.wrap (x188.getD y371.toNat (kInt .u32).z)))) + (IntKind.u64.wrap ((y372).getD ((IntKind.i64.wrap (y342 + y371)).toNat) (kInt .u32).z)))) + y370)) 32), (IntKind.i64.wrap (y371 + 1)), ((y372).set ((IntKind.i64.wrap (y342 + y371)).toNat) (IntKind.u32.wrap (IntKind.u64.wrap ((IntKind.u64.wrap ((IntKind.u64.wrap ((IntKind.u64.wrap (x187.getD y342.toNat (kInt .u32).z)) * (IntKind.u64.wrap (x188.getD y371.toNat (kInt .u32).z)))) + (IntKind.u64.wrap ((y372).getD ((IntKind.i64.wrap (y342 + y371)).toNat) (kInt .u32).z)))) + y370))))) (jn (m := 0) [(0, 0)] hE (.l rfl <| .g rfl (.row _ _ _ _ _ rfl) <| .i rfl <| .i rfl <| .i rfl <| .l rfl <| .i rfl <| .i rfl <| .l rfl <| .i rfl <| .i rfl <| .nil) (.cons (.refl _) (renV_rw _ _) <| .nil) rfl) rfl
          · refine .exit <| .seq_exit <| .loop_exit <| .block_exit <| .weak (h595 (y370, y372)) (jn (m := 0) [(0, 0)] hE (.l rfl <| .g rfl (.row _ _ _ _ _ rfl) <| .i rfl <| .i rfl <| .l rfl <| .i rfl <| .i rfl <| .nil) (.cons (.refl _) (renV_rw _ _) <| .nil) rfl)
    · refine .exit <| .seq_exit <| .loop_exit <| .block_exit <| .weak (h311 y343) (jn (m := 0) [(0, 0)] hE (.g rfl (.row _ _ _ _ _ rfl) <| .nil) (.cons (.refl _) (renV_rw _ _) <| .nil) rfl)
theorem nat_Mul_p {a0 : List Int} {a1 : List Int} {r : (List Int)} (h : nat_Mul a0 a1 = some r) : Pur Tryz.prog 81 [(slK (kInt .u32) a0), (slK (kInt .u32) a1)] (slK (kInt .u32) r) := ⟨⟨_, Tryz.func81, nm81, rfl⟩, nat_Mul_c a0 a1 _ h, fun _ => (.l <| .l <| .nil), fun _ => (ren_sl _)⟩

theorem dyad_Mul_c (a0 : ApiDy) (a1 : ApiDy) : ∀ r, dyad_Mul a0 a1 = some r → ACalls Tryz.prog 21 [(.agg (kApiDy.enc a0)), (.agg (kApiDy.enc a1))] (lw []) (.tup [(.agg (kApiDy.enc (⟨((r.1).M), (r.1).E⟩ : ApiDy))), (.int .i64 r.2)]) (ld []) := by
  unfold dyad_Mul
  refine go 0 Tryz.func21 Tryz.ntmps21 rfl ?_
  intro E hE
  refine .seq <| .region <| .w (bx 0 rfl) <| .w (bx 1 rfl) <| .w (al 2 ze26 rfl) <| .p (sg rfl) <| .nil <| .seq <| .seq <| .region <| .p (bd ze85 pl85 rfl) <| .w (bx 3 rfl) <| .p (sg rfl) <| .nil <| ?_
  refine .seq <| .seq <| .seq <| .region <| .p (mv rfl) <| .p (la ag26 rfl) <| .p (la ag26 rfl) <| ?_
  refine TR.st 12 (slK kApiDy [a0, a1]) [] (snd_buildSlice _ _ _ 3 _ _ [(0, (.agg (kApiDy.enc a0))), (1, (.agg (kApiDy.enc a1)))] (List.map kApiDy.enc [a0, a1]) rfl Tryz.underlying96 ze26 si26 rfl rfl rfl (by decide) (by decide) (by decide) rfl rfl (Kd.even _) rfl) rfl rfl rfl ?_
  refine .bind fun x10 h1 => .w (cl (dyad_work_right_k h1) [3] [] [true] rfl (.p rfl <| .l <| .nil) (.p rfl (.i <| .b <| .l <| .i <| .nil) .nil) fresh_nil (.cons (.v (.i <| .b <| .l <| .i <| .nil)) .nil) (.bool _) (.turned .nil) rfl) <| .nil <| .seq <| ?_
  refine T.cut (X := Bool × (List Int) × Int) (fun x => dyad_Mul_j1 x10 x.1 x.2.1 x.2.2) (fun x => (mkS [(4, some (.ptr 2 0)), (6, some (.ptr 3 0))] [(2, (.live 26 [(.bool false), (slK (kInt .u32) []), (.int .i64 0)])), (3, (.live 85 [(.int .i64 x10.2), (.bool x.1), (slK (kInt .u32) x.2.1), (.int .i64 x.2.2)]))])) ?_ ?_
  · rintro ⟨y13, y14, y15⟩
    dsimp only [dyad_Mul_j1]
    refine .seq <| .seq <| .region <| .p (mv rfl) <| .bind fun x16 h6 => .w (cl (dyad_work_told_k h6) [3] [] [true] rfl (.p rfl <| .nil) (.p rfl (.i <| .b <| .l <| .i <| .nil) .nil) fresh_nil (.cons (.v (.i <| .b <| .l <| .i <| .nil)) .nil) (ren_tupL (.a kApiDy <| .i <| .nil)) (.turned .nil) rfl) <| .p (xt rfl) <| .p (xt rfl) <| .n (sa ag26 rfl) <| .p (sg rfl) <| .nil <| .seq <| .ret <| fin_2 (.inr rfl) (.nil _) Tryz.results21 (.a ag26 rfl) (.t rfl) (AVle.refl _)
  · intro h7
    refine T.cond_p rfl iff_b (fun h8 h9 => ?_) (fun h8 h9 => ?_)
    · refine .draw mixed <| .p (mv rfl) <| .p (fa 0 fl26_0 rfl) <| .p (fa 0 fl24_0 rfl) <| .p (ls sc4 rfl) <| .p (fa 0 fl26_0 rfl) <| .p (fa 0 fl24_0 rfl) <| .p (ls sc4 rfl) <| ?_
      refine TD.st 21 (.bool (a0.M.Neg != a1.M.Neg)) [] (snd_bool_neq _ _ _ _ _ _ rfl Tryz.underlying4 rfl rfl rfl rfl) rfl rfl rfl ?_
      refine .p (fa 0 fl26_0 rfl) <| .p (fa 1 fl24_1 rfl) <| .p (ls sc22 rfl) <| .p (fa 0 fl26_0 rfl) <| .p (fa 1 fl24_1 rfl) <| .p (ls sc22 rfl) <| .bind fun x17 h10 => .p (c0 (nat_Mul_p h10) rfl) <| .p (fa 2 fl26_1 rfl) <| .p (ls sc3 rfl) <| .p (fa 2 fl26_1 rfl) <| .p (ls sc3 rfl) <| .p (ar rfl) <| .bind fun x18 h11 => ?_
      refine .p (c0 (dyad_norm_p h11) rfl) <| .p (nc rfl) <| .p (fa 1 fl85_1 rfl) <| .n (sa ag26 rfl) <| .nil (by kernel_rfl) <| .weak (h7 (((x18).M).Neg, ((x18).M).Mag, (x18).E)) (jn (m := 0) [(2, 2), (3, 3)] hE (.p rfl rfl <| .p rfl rfl <| .nil) (.v rfl (.b <| .l <| .i <| .nil) <| .v rfl (.i <| .b <| .l <| .i <| .nil) <| .nil) rfl)
    · refine .skip <| .weak (h7 (false, [], 0)) (jn (m := 0) [(2, 2), (3, 3)] hE (.p rfl rfl <| .p rfl rfl <| .nil) (.v rfl (.b <| .l <| .i <| .nil) <| .v rfl (.i <| .b <| .l <| .i <| .nil) <| .nil) rfl)
theorem dyad_Mul_p {a0 : ApiDy} {a1 : ApiDy} {r : ApiDy × Int} (h : dyad_Mul a0 a1 = some r) : Pur Tryz.prog 21 [(.agg (kApiDy.enc a0)), (.agg (kApiDy.enc a1))] (.tup [(.agg (kApiDy.enc (⟨((r.1).M), (r.1).E⟩ : ApiDy))), (.int .i64 r.2)]) := ⟨⟨_, Tryz.func21, nm21, rfl⟩, dyad_Mul_c a0 a1 _ h, fun _ => (.a kApiDy <| .a kApiDy <| .nil), fun _ => (ren_tupL (.a kApiDy <| .i <| .nil))⟩

theorem iv_Calc_four_6ec2_c (a0 : ApiIv) (a1 : ApiIv) (a2 : Int) (a3 : Int) : ∀ r, iv_Calc_four_6ec2 a0 a1 a2 a3 = some r → ACalls Tryz.prog 90 [(.ptr 0 0), (.agg (kApiIv.enc a0)), (.agg (kApiIv.enc a1)), (.fn 21 [] [])] (lw [(.live 45 [(.int .i64 a2), (.int .i64 a3)])]) (slK kApiDy r.1) (ld [(.live 45 [(.int .i64 r.2), (.int .i64 a3)])]) := by
  unfold iv_Calc_four_6ec2
  refine go 1 Tryz.func90 Tryz.ntmps90 rfl ?_
  intro E hE
  refine .seq <| .region <| .w (bx 1 rfl) <| .w (bx 2 rfl) <| .p (sg rfl) <| .nil <| .seq <| .seq <| .draw mixed <| .p (fa 0 fl34_0 rfl) <| .p (la ag26 rfl) <| .p (fa 3 fl34_1 rfl) <| .p (la ag26 rfl) <| ?_
  refine TD.st 20 (slK kApiDy [a0.Lo, a0.Hi]) [] (snd_buildSlice _ _ _ 3 _ _ [(0, (.agg (kApiDy.enc a0.Lo))), (1, (.agg (kApiDy.enc a0.Hi)))] (List.map kApiDy.enc [a0.Lo, a0.Hi]) rfl Tryz.underlying96 ze26 si26 rfl rfl rfl (by decide) (by decide) (by decide) rfl rfl (Kd.even _) rfl) rfl rfl rfl ?_
  refine .p (fa 0 fl34_0 rfl) <| .p (la ag26 rfl) <| .p (fa 3 fl34_1 rfl) <| .p (la ag26 rfl) <| ?_
  refine TD.st 25 (slK kApiDy [a1.Lo, a1.Hi]) [] (snd_buildSlice _ _ _ 3 _ _ [(0, (.agg (kApiDy.enc a1.Lo))), (1, (.agg (kApiDy.enc a1.Hi)))] (List.map kApiDy.enc [a1.Lo, a1.Hi]) rfl Tryz.underlying96 ze26 si26 rfl rfl rfl (by decide) (by decide) (by decide) rfl rfl (Kd.even _) rfl) rfl rfl rfl ?_
  refine .p (sg rfl) <| .p (sg rfl) <| .nil (by kernel_rfl) <| .seq <| .seq <| .seq <| .region <| .p (fa 0 fl34_0 rfl) <| .p (la ag26 rfl) <| .p (fa 3 fl34_1 rfl) <| .p (la ag26 rfl) <| .bind fun x487 h1 => .p (c0 (dyad_Cmp_p h1) rfl) <| .p (ar rfl) <| ?_
  refine .nil <| .seq <| ?_
  refine T.cut (X := (List ApiDy)) (fun x => iv_Calc_four_6ec2_j1 a1 a3 a2 x) (fun x => (mkS [(0, some (.ptr 0 0)), (3, some (.fn 21 [] [])), (6, some (.ptr 2 0)), (9, some (slK kApiDy x)), (10, some (slK kApiDy [a1.Lo, a1.Hi]))] [(0, (.live 45 [(.int .i64 a2), (.int .i64 a3)])), (2, (.live 34 [(.bool a1.Lo.M.Neg), (slK (kInt .u32) a1.Lo.M.Mag), (.int .i64 a1.Lo.E), (.bool a1.Hi.M.Neg), (slK (kInt .u32) a1.Hi.M.Mag), (.int .i64 a1.Hi.E)]))])) ?_ ?_
  · rintro y488
    dsimp only [iv_Calc_four_6ec2_j1]
    refine .seq <| .seq <| .seq <| .region <| .p (fa 0 fl34_0 rfl) <| .p (la ag26 rfl) <| .p (fa 3 fl34_1 rfl) <| .p (la ag26 rfl) <| .bind fun x489 h5 => .p (c0 (dyad_Cmp_p h5) rfl) <| .p (ar rfl) <| .nil <| .seq <| ?_
    refine T.cut (X := (List ApiDy)) (fun x => iv_Calc_four_6ec2_j2 y488 a3 a2 x) (fun x => (mkS [(0, some (.ptr 0 0)), (3, some (.fn 21 [] [])), (9, some (slK kApiDy y488)), (10, some (slK kApiDy x))] [(0, (.live 45 [(.int .i64 a2), (.int .i64 a3)]))])) ?_ ?_
    · rintro y490
      dsimp only [iv_Calc_four_6ec2_j2]
      refine .seq <| .seq <| .region <| .p (sg rfl) <| .nil <| .seq <| .seq <| .seq <| .region <| .p (mv rfl) <| .p (ln Tryz.underlying96 rfl) <| .p (mv rfl) <| .nil <| .seq <| ?_
      refine T.cut (X := Int × (List ApiDy)) (fun x => iv_Calc_four_6ec2_j3 x.1 x.2) (fun x => (mkS [(11, some (grA kApiDy 1 x.2))] [(0, (.live 45 [(.int .i64 x.1), (.int .i64 a3)])), (1, (grV kApiDy 26 x.2))])) ?_ ?_
      · rintro ⟨y731, y732⟩
        dsimp only [iv_Calc_four_6ec2_j3]
        refine .seq <| .seq <| .region <| .p (mv rfl) <| .p (sg rfl) <| .nil <| .seq <| .ret <| ?_
        refine TQ.weak ?_ (fun a w h => Conc.gr_still kApiDy h 8 1 26 y732 rfl rfl)
        exact fin_1 (.inr rfl) (.k rfl (.nil _)) Tryz.results90 (.t rfl) (AVle.refl _)
      · intro h381
        refine .block <| ?_
        refine T.weak ?_ (fun a w h => Conc.gr_nil kApiDy h 11 1 26 rfl)
        refine .loopW (X := Int × Int × (List ApiDy)) (fun n x => iv_Calc_four_6ec2_l4 y488 y490 a3 n x.1 x.2.1 x.2.2) (fun x => (mkS [(0, some (.ptr 0 0)), (3, some (.fn 21 [] [])), (10, some (slK kApiDy y490)), (11, some (grA kApiDy 1 x.2.2)), (42, some (slK kApiDy y488)), (43, some (.int .i64 (y488.length : Int))), (44, some (.int .i64 x.1))] [(0, (.live 45 [(.int .i64 x.2.1), (.int .i64 a3)])), (1, (grV kApiDy 26 x.2.2))])) (0, a2, []) (jn (m := 1) [(0, 0), (1, 1)] hE (.p rfl rfl <| .g rfl (ren_fnL _ .nil .nil) <| .l rfl <| .g rfl (ren_gr (K := kApiDy) (by rfl) []) <| .l rfl <| .i rfl <| .i rfl <| .nil) (.v rfl (.i <| .i <| .nil) <| .cons (.refl _) (renV_gr (K := kApiDy) 26 []) <| .nil) rfl) (fun _ => rfl) rfl <| ?_
        rintro n4 ⟨y892, y893, y894⟩
        try dsimp only
        rw [iv_Calc_four_6ec2_l4]
        refine .seq <| .region <| .p (ar rfl) <| .nil <| .seq <| .seq <| ?_
        refine T.cond_p rfl iff_dec (fun h630 h631 => ?_) (fun h630 h631 => ?_)
        · refine .skip <| .seq <| .seq <| ?_
          refine T.cut (X := Int × (List ApiDy)) (fun x => iv_Calc_four_6ec2_j5 (fun z0 z1 z2 => iv_Calc_four_6ec2_l4 y488 y490 a3 n4 z0 z1 z2) y892 x.1 x.2) (fun x => (mkS [(0, some (.ptr 0 0)), (3, some (.fn 21 [] [])), (10, some (slK kApiDy y490)), (11, some (grA kApiDy 1 x.2)), (42, some (slK kApiDy y488)), (43, some (.int .i64 (y488.length : Int))), (44, some (.int .i64 y892))] [(0, (.live 45 [(.int .i64 x.1), (.int .i64 a3)])), (1, (grV kApiDy 26 x.2))])) ?_ ?_
          · rintro ⟨y933, y934⟩
            dsimp only [iv_Calc_four_6ec2_j5]
            refine .seq <| .region <| .p (ar rfl) <| .p (mv rfl) <| .nil <| .again ((IntKind.i64.wrap (y892 + 1)), y933, y934) (jn (m := 1) [(0, 0), (1, 1)] hE (.p rfl rfl <| .g rfl (ren_fnL _ .nil .nil) <| .l rfl <| .g rfl (ren_gr (K := kApiDy) (by rfl) y934) <| .l rfl <| .i rfl <| .i rfl <| .nil) (.v rfl (.i <| .i <| .nil) <| .cons (.refl _) (renV_gr (K := kApiDy) 26 y934) <| .nil) rfl) rfl
          · intro h693
            refine .block <| .seq <| .region <| .guard fun h694 => ?_
            refine TR.st 46 (.iptr [(.bool (((y488.getD y892.toNat zApiDy).M).Neg)), (slK (kInt .u32) (((y488.getD y892.toNat zApiDy).M).Mag)), (.int .i64 ((y488.getD y892.toNat zApiDy).E))]) [] (snd_indexK kApiDy _ _ _ _ _ _ y892 rfl Tryz.underlying96 si26 rfl rfl rfl rfl h694) rfl rfl rfl ?_
            refine .p (lai ag26 rfl) <| .w (al 2 ze26 rfl) <| .n (sa ag26 rfl) <| .nil <| .seq <| .seq <| .region <| .p (mv rfl) <| .p (ln Tryz.underlying96 rfl) <| .p (mv rfl) <| .nil <| .seq <| ?_
            refine T.cut (X := Int × (List ApiDy)) (fun x => iv_Calc_four_6ec2_j6 (fun z0 z1 z2 => iv_Calc_four_6ec2_l4 y488 y490 a3 n4 z0 z1 z2) y892 x.1 x.2) (fun x => (mkS [(0, some (.ptr 0 0)), (3, some (.fn 21 [] [])), (10, some (slK kApiDy y490)), (11, some (grA kApiDy 1 x.2)), (42, some (slK kApiDy y488)), (43, some (.int .i64 (y488.length : Int))), (44, some (.int .i64 y892))] [(0, (.live 45 [(.int .i64 x.1), (.int .i64 a3)])), (1, (grV kApiDy 26 x.2))])) ?_ ?_
            · rintro ⟨y953, y954⟩
              dsimp only [iv_Calc_four_6ec2_j6]
              refine .block <| .weak (h693 (y953, y954)) (jn (m := 1) [(0, 0), (1, 1)] hE (.p rfl rfl <| .g rfl (ren_fnL _ .nil .nil) <| .l rfl <| .g rfl (ren_gr (K := kApiDy) (by rfl) y954) <| .l rfl <| .i rfl <| .i rfl <| .nil) (.v rfl (.i <| .i <| .nil) <| .cons (.refl _) (renV_gr (K := kApiDy) 26 y954) <| .nil) rfl)
            · intro h725
              refine .block <| .loopW (X := Int × Int × (List ApiDy)) (fun n x => iv_Calc_four_6ec2_l7 y490 y488 y892 a3 (fun z0 z1 z2 => iv_Calc_four_6ec2_l4 y488 y490 a3 n4 z0 z1 z2) n x.1 x.2.1 x.2.2) (fun x => (mkS [(0, some (.ptr 0 0)), (3, some (.fn 21 [] [])), (10, some (slK kApiDy y490)), (11, some (grA kApiDy 1 x.2.2)), (13, some (.ptr 2 0)), (42, some (slK kApiDy y488)), (43, some (.int .i64 (y488.length : Int))), (44, some (.int .i64 y892)), (48, some (slK kApiDy y490)), (49, some (.int .i64 (y490.length : Int))), (50, some (.int .i64 x.1))] [(0, (.live 45 [(.int .i64 x.2.1), (.int .i64 a3)])), (1, (grV kApiDy 26 x.2.2)), (2, (.live 26 [(.bool (((y488.getD y892.toNat zApiDy).M).Neg)), (slK (kInt .u32) (((y488.getD y892.toNat zApiDy).M).Mag)), (.int .i64 ((y488.getD y892.toNat zApiDy).E))]))])) (0, y893, y894) (jn (m := 1) [(0, 0), (1, 1), (2, 2)] hE (.p rfl rfl <| .g rfl (ren_fnL _ .nil .nil) <| .l rfl <| .g rfl (ren_gr (K := kApiDy) (by rfl) y894) <| .p rfl rfl <| .l rfl <| .i rfl <| .i rfl <| .l rfl <| .i rfl <| .i rfl <| .nil) (.v rfl (.i <| .i <| .nil) <| .cons (.refl _) (renV_gr (K := kApiDy) 26 y894) <| .v rfl (.b <| .l <| .i <| .nil) <| .nil) rfl) (fun _ => rfl) rfl <| ?_
              rintro n7 ⟨y966, y967, y968⟩
              try dsimp only
              rw [iv_Calc_four_6ec2_l7]
              refine .seq <| .region <| .p (ar rfl) <| .nil <| .seq <| .seq <| ?_
              refine T.cond_p rfl iff_dec (fun h746 h747 => ?_) (fun h746 h747 => ?_)
              · refine .skip <| .seq <| .seq <| .block <| .seq <| .region <| .guard fun h752 => ?_
                refine TR.st 52 (.iptr [(.bool (((y490.getD y966.toNat zApiDy).M).Neg)), (slK (kInt .u32) (((y490.getD y966.toNat zApiDy).M).Mag)), (.int .i64 ((y490.getD y966.toNat zApiDy).E))]) [] (snd_indexK kApiDy _ _ _ _ _ _ y966 rfl Tryz.underlying96 si26 rfl rfl rfl rfl h752) rfl rfl rfl ?_
                refine .p (lai ag26 rfl) <| .w (al 3 ze26 rfl) <| .n (sa ag26 rfl) <| .nil <| .seq <| .region <| .p (mv rfl) <| .p (mv rfl) <| .p (mv rfl) <| .p (la ag26 rfl) <| .p (la ag26 rfl) <| .bind fun x971 h753 => .p (c0 (dyad_Mul_p h753) rfl) <| .p (xt rfl) <| ?_
                refine .p (xt rfl) <| .bind fun x972 h754 => .w (cl (iv_Calc_take_k h754) [0] [] [true] rfl (.p rfl <| .a kApiDy <| .i <| .nil) (.p rfl (.i <| .i <| .nil) .nil) fresh_nil (.cons (.v (.i <| .i <| .nil)) .nil) (ren_agg (K := kApiDy) _) (.turned .nil) rfl) <| ?_
                refine TR.st 63 (slK kApiDy [(⟨((x972.1).M), (x972.1).E⟩ : ApiDy)]) [] (snd_buildSlice _ _ _ 3 _ _ [(0, (.agg (kApiDy.enc (⟨((x972.1).M), (x972.1).E⟩ : ApiDy))))] (List.map kApiDy.enc [(⟨((x972.1).M), (x972.1).E⟩ : ApiDy)]) rfl Tryz.underlying96 ze26 si26 rfl rfl rfl (by decide) (by decide) (by decide) rfl rfl (Kd.even _) rfl) rfl rfl rfl ?_
                refine .guard fun h755 => ?_
                refine TR.st 64 (.row 4 kApiDy.sz 0 (((y968 ++ [(⟨((x972.1).M), (x972.1).E⟩ : ApiDy)])).length)) [(4, (rwK kApiDy 26 (y968 ++ [(⟨((x972.1).M), (x972.1).E⟩ : ApiDy)]))), (1, .dead)] (snd_appendK_gr kApiDy _ _ _ _ _ 1 4 y968 [(⟨((x972.1).M), (x972.1).E⟩ : ApiDy)] rfl Tryz.underlying96 ze26 sb26 rfl rfl rfl rfl rfl rfl rfl h755) rfl rfl rfl ?_
                refine .p (sg rfl) <| .nil <| .block <| .seq <| .region <| .p (ar rfl) <| .p (mv rfl) <| .nil <| ?_
                refine TQ.weak ?_ (fun a w h => Conc.gr_row kApiDy h 11 4 26 (y968 ++ [(⟨((x972.1).M), (x972.1).E⟩ : ApiDy)]) rfl rfl (by first | omega | (simp only [List.length_append, List.length_cons, List.length_set]; omega) | simp))
                exact TQ.again ((IntKind.i64.wrap (y966 + 1)), x972.2, (y968 ++ [(⟨((x972.1).M), (x972.1).E⟩ : ApiDy)])) (jn (m := 1) [(0, 0), (4, 1), (2, 2)] hE (.p rfl rfl <| .g rfl (ren_fnL _ .nil .nil) <| .l rfl <| .g rfl (ren_gr (K := kApiDy) (by rfl) (y968 ++ [(⟨((x972.1).M), (x972.1).E⟩ : ApiDy)])) <| .p rfl rfl <| .l rfl <| .i rfl <| .i rfl <| .l rfl <| .i rfl <| .i rfl <| .nil) (.v rfl (.i <| .i <| .nil) <| .cons (.refl _) (renV_gr (K := kApiDy) 26 (y968 ++ [(⟨((x972.1).M), (x972.1).E⟩ : ApiDy)])) <| .v rfl (.b <| .l <| .i <| .nil) <| .nil) rfl) rfl
              · refine .exit <| .seq_exit <| .loop_exit <| .block_exit <| .weak (h725 (y967, y968)) (jn (m := 1) [(0, 0), (1, 1)] hE (.p rfl rfl <| .g rfl (ren_fnL _ .nil .nil) <| .l rfl <| .g rfl (ren_gr (K := kApiDy) (by rfl) y968) <| .l rfl <| .i rfl <| .i rfl <| .nil) (.v rfl (.i <| .i <| .nil) <| .cons (.refl _) (renV_gr (K := kApiDy) 26 y968) <| .nil) rfl)
        · refine .exit <| .seq_exit <| .loop_exit <| .block_exit <| .weak (h381 (y893, y894)) (jn (m := 1) [(0, 0), (1, 1)] hE (.g rfl (ren_gr (K := kApiDy) (by rfl) y894) <| .nil) (.v rfl (.i <| .i <| .nil) <| .cons (.refl _) (renV_gr (K := kApiDy) 26 y894) <| .nil) rfl)
    · intro h756
      refine T.cond_p rfl iff_eq (fun h757 h758 => ?_) (fun h757 h758 => ?_)
      · refine .region <| .p (mv rfl) <| .guard fun h759 => ?_
        refine TR.st 41 (slK kApiDy ([a1.Lo, a1.Hi].take 1)) [] (snd_sliceK kApiDy _ _ _ _ _ _ 0 1 rfl Tryz.underlying96 si26 rfl rfl rfl rfl rfl h759) rfl rfl rfl ?_
        refine .p (sg rfl) <| .nil <| .weak (h756 ([a1.Lo, a1.Hi].take 1)) (jn (m := 1) [(0, 0)] hE (.p rfl rfl <| .g rfl (ren_fnL _ .nil .nil) <| .l rfl <| .l rfl <| .nil) (.v rfl (.i <| .i <| .nil) <| .nil) rfl)
      · refine .skip <| .weak (h756 [a1.Lo, a1.Hi]) (jn (m := 1) [(0, 0)] hE (.p rfl rfl <| .g rfl (ren_fnL _ .nil .nil) <| .l rfl <| .l rfl <| .nil) (.v rfl (.i <| .i <| .nil) <| .nil) rfl)
  · intro h760
    refine T.cond_p rfl iff_eq (fun h761 h762 => ?_) (fun h761 h762 => ?_)
    · refine .region <| .p (mv rfl) <| .guard fun h763 => ?_
      refine TR.st 33 (slK kApiDy ([a0.Lo, a0.Hi].take 1)) [] (snd_sliceK kApiDy _ _ _ _ _ _ 0 1 rfl Tryz.underlying96 si26 rfl rfl rfl rfl rfl h763) rfl rfl rfl ?_
      refine .p (sg rfl) <| .nil <| .weak (h760 ([a0.Lo, a0.Hi].take 1)) (jn (m := 1) [(0, 0), (2, 2)] hE (.p rfl rfl <| .g rfl (ren_fnL _ .nil .nil) <| .p rfl rfl <| .l rfl <| .l rfl <| .nil) (.v rfl (.i <| .i <| .nil) <| .v rfl (.b <| .l <| .i <| .b <| .l <| .i <| .nil) <| .nil) rfl)
    · refine .skip <| .weak (h760 [a0.Lo, a0.Hi]) (jn (m := 1) [(0, 0), (2, 2)] hE (.p rfl rfl <| .g rfl (ren_fnL _ .nil .nil) <| .p rfl rfl <| .l rfl <| .l rfl <| .nil) (.v rfl (.i <| .i <| .nil) <| .v rfl (.b <| .l <| .i <| .b <| .l <| .i <| .nil) <| .nil) rfl)
theorem iv_Calc_four_6ec2_k {a0 : ApiIv} {a1 : ApiIv} {a2 : Int} {a3 : Int} {r : (List ApiDy) × Int} (h : iv_Calc_four_6ec2 a0 a1 a2 a3 = some r) : Cal Tryz.prog 90 [(.ptr 0 0), (.agg (kApiIv.enc a0)), (.agg (kApiIv.enc a1)), (.fn 21 [] [])] [(.live 45 [(.int .i64 a2), (.int .i64 a3)])] (slK kApiDy r.1) [(.live 45 [(.int .i64 r.2), (.int .i64 a3)])] := ⟨⟨_, Tryz.func90, nm90, rfl⟩, iv_Calc_four_6ec2_c a0 a1 a2 a3 _ h⟩

theorem dyad_Round_c (a0 : ApiDy) (a1 : Int) (a2 : Bool) : ∀ r, dyad_Round a0 a1 a2 = some r → ACalls Tryz.prog 144 [(.agg (kApiDy.enc a0)), (.int .i64 a1), (.bool a2)] (lw []) (.tup [(.agg (kApiDy.enc (⟨((r.1).M), (r.1).E⟩ : ApiDy))), (.int .i64 r.2)]) (ld []) := by
  unfold dyad_Round
  refine go 0 Tryz.func144 Tryz.ntmps144 rfl ?_
  intro E hE
  refine .seq <| .region <| .w (bx 0 rfl) <| .w (al 1 ze26 rfl) <| .p (sg rfl) <| .nil <| .seq <| .seq <| .region <| .p (bd ze85 pl85 rfl) <| .w (bx 2 rfl) <| .p (sg rfl) <| .nil <| .seq <| ?_
  refine .seq <| .seq <| ?_
  refine T.cut (X := Bool × Int) (fun x => dyad_Round_j1 a0 a1 a2 x.1 x.2) (fun x => (mkS [(1, some (.int .i64 a1)), (2, some (.bool a2)), (3, some (.ptr 0 0)), (6, some (.ptr 1 0)), (8, some (.ptr 2 0)), (19, some (.bool x.1))] [(0, (.live 26 [(.bool a0.M.Neg), (slK (kInt .u32) a0.M.Mag), (.int .i64 a0.E)])), (1, (.live 26 [(.bool false), (slK (kInt .u32) []), (.int .i64 0)])), (2, (.live 85 [(.int .i64 x.2), (.bool false), (slK (kInt .u32) []), (.int .i64 0)]))])) ?_ ?_
  · rintro ⟨y15, y16⟩
    dsimp only [dyad_Round_j1]
    refine .seq <| ?_
    refine T.cut (X := Bool × (List Int) × Int) (fun x => dyad_Round_j2 y16 x.1 x.2.1 x.2.2) (fun x => (mkS [(6, some (.ptr 1 0)), (8, some (.ptr 2 0))] [(1, (.live 26 [(.bool false), (slK (kInt .u32) []), (.int .i64 0)])), (2, (.live 85 [(.int .i64 y16), (.bool x.1), (slK (kInt .u32) x.2.1), (.int .i64 x.2.2)]))])) ?_ ?_
    · rintro ⟨y18, y19, y20⟩
      dsimp only [dyad_Round_j2]
      refine .seq <| .seq <| .region <| .p (mv rfl) <| .bind fun x21 h7 => .w (cl (dyad_work_told_k h7) [2] [] [true] rfl (.p rfl <| .nil) (.p rfl (.i <| .b <| .l <| .i <| .nil) .nil) fresh_nil (.cons (.v (.i <| .b <| .l <| .i <| .nil)) .nil) (ren_tupL (.a kApiDy <| .i <| .nil)) (.turned .nil) rfl) <| .p (xt rfl) <| .p (xt rfl) <| .n (sa ag26 rfl) <| .p (sg rfl) <| .nil <| .seq <| .ret <| fin_2 (.inr rfl) (.nil _) Tryz.results144 (.a ag26 rfl) (.t rfl) (AVle.refl _)
    · intro h8
      refine T.cond_p rfl iff_b (fun h9 h10 => ?_) (fun h9 h10 => ?_)
      · refine .region <| .p (mv rfl) <| .p (fa 0 fl26_0 rfl) <| .p (fa 0 fl24_0 rfl) <| .p (ls sc4 rfl) <| .p (fa 0 fl26_0 rfl) <| .p (fa 1 fl24_1 rfl) <| .p (ls sc22 rfl) <| .p (fa 2 fl26_1 rfl) <| .p (ls sc3 rfl) <| .p (mv rfl) <| .p (mv rfl) <| .p (fa 0 fl26_0 rfl) <| .p (fa 0 fl24_0 rfl) <| ?_
        refine .p (ls sc4 rfl) <| ?_
        refine TR.st 34 (.bool (a2 != a0.M.Neg)) [] (snd_bool_neq _ _ _ _ _ _ rfl Tryz.underlying4 rfl rfl rfl rfl) rfl rfl rfl ?_
        refine .bind fun x22 h11 => .w (cl (dyad_work_cut_k h11) [2] [] [true] rfl (.p rfl <| .b <| .l <| .i <| .b <| .i <| .b <| .nil) (.p rfl (.i <| .b <| .l <| .i <| .nil) .nil) fresh_nil (.cons (.v (.i <| .b <| .l <| .i <| .nil)) .nil) (ren_tupL .nil) (.turned .nil) rfl) <| .nil <| .weak (h8 (x22.1, x22.2.1, x22.2.2)) (jn (m := 0) [(1, 1), (2, 2)] hE (.p rfl rfl <| .p rfl rfl <| .nil) (.v rfl (.b <| .l <| .i <| .nil) <| .v rfl (.i <| .b <| .l <| .i <| .nil) <| .nil) rfl)
      · refine .skip <| .weak (h8 (false, [], 0)) (jn (m := 0) [(1, 1), (2, 2)] hE (.p rfl rfl <| .p rfl rfl <| .nil) (.v rfl (.b <| .l <| .i <| .nil) <| .v rfl (.i <| .b <| .l <| .i <| .nil) <| .nil) rfl)
  · intro h12
    refine .region <| .p (mv rfl) <| .p (la ag26 rfl) <| ?_
    refine TR.st 13 (slK kApiDy [a0]) [] (snd_buildSlice _ _ _ 3 _ _ [(0, (.agg (kApiDy.enc a0)))] (List.map kApiDy.enc [a0]) rfl Tryz.underlying96 ze26 si26 rfl rfl rfl (by decide) (by decide) (by decide) rfl rfl (Kd.even _) rfl) rfl rfl rfl ?_
    refine .bind fun x23 h13 => .w (cl (dyad_work_right_k h13) [2] [] [true] rfl (.p rfl <| .l <| .nil) (.p rfl (.i <| .b <| .l <| .i <| .nil) .nil) fresh_nil (.cons (.v (.i <| .b <| .l <| .i <| .nil)) .nil) (.bool _) (.turned .nil) rfl) <| .p (mv rfl) <| ?_
    refine TR.gd 15 _ rfl iff_b (fun h14 => ?_) (fun h14 => ?_)
    · refine .p (mv rfl) <| .p (mv rfl) <| .bind fun x24 h15 => .w (cl (dyad_work_prec_k h15) [2] [] [true] rfl (.p rfl <| .i <| .nil) (.p rfl (.i <| .b <| .l <| .i <| .nil) .nil) fresh_nil (.cons (.v (.i <| .b <| .l <| .i <| .nil)) .nil) (.bool _) (.turned .nil) rfl) <| .p (pt rfl) <| .nil <| .weak (h12 (x24.1, x24.2)) (jn (m := 0) [(0, 0), (1, 1), (2, 2)] hE (.i rfl <| .b rfl <| .p rfl rfl <| .p rfl rfl <| .p rfl rfl <| .b rfl <| .nil) (.v rfl (.b <| .l <| .i <| .nil) <| .v rfl (.b <| .l <| .i <| .nil) <| .v rfl (.i <| .b <| .l <| .i <| .nil) <| .nil) rfl)
    · refine .k rfl <| .k rfl <| .k rfl <| .p (pf rfl) <| .nil <| .weak (h12 (false, x23.2)) (jn (m := 0) [(0, 0), (1, 1), (2, 2)] hE (.i rfl <| .b rfl <| .p rfl rfl <| .p rfl rfl <| .p rfl rfl <| .b rfl <| .nil) (.v rfl (.b <| .l <| .i <| .nil) <| .v rfl (.b <| .l <| .i <| .nil) <| .v rfl (.i <| .b <| .l <| .i <| .nil) <| .nil) rfl)
theorem dyad_Round_p {a0 : ApiDy} {a1 : Int} {a2 : Bool} {r : ApiDy × Int} (h : dyad_Round a0 a1 a2 = some r) : Pur Tryz.prog 144 [(.agg (kApiDy.enc a0)), (.int .i64 a1), (.bool a2)] (.tup [(.agg (kApiDy.enc (⟨((r.1).M), (r.1).E⟩ : ApiDy))), (.int .i64 r.2)]) := ⟨⟨_, Tryz.func144, nm144, rfl⟩, dyad_Round_c a0 a1 a2 _ h, fun _ => (.a kApiDy <| .i <| .b <| .nil), fun _ => (ren_tupL (.a kApiDy <| .i <| .nil))⟩

theorem iv_Calc_down_c (a0 : ApiDy) (a1 : Int) (a2 : Int) : ∀ r, iv_Calc_down a0 a1 a2 = some r → ACalls Tryz.prog 85 [(.ptr 0 0), (.agg (kApiDy.enc a0))] (lw [(.live 45 [(.int .i64 a1), (.int .i64 a2)])]) (.agg (kApiDy.enc (⟨((r.1).M), (r.1).E⟩ : ApiDy))) (ld [(.live 45 [(.int .i64 r.2), (.int .i64 a2)])]) := by
  unfold iv_Calc_down
  refine go 1 Tryz.func85 Tryz.ntmps85 rfl ?_
  intro E hE
  refine .seq <| .region <| .w (bx 1 rfl) <| .w (al 2 ze26 rfl) <| .nil <| .seq <| .seq <| .seq <| .region <| .p (mv rfl) <| .p (nc rfl) <| .p (fa 0 fl45_0 rfl) <| .p (fa 0 fl43_0 rfl) <| .p (ls sc29 rfl) <| ?_
  refine .p (ar rfl) <| .nil <| .seq <| ?_
  refine T.cond_p rfl iff_ne (fun h1 h2 => ?_) (fun h1 h2 => ?_)
  · refine .seq <| .region <| .p (bd ze26 pl26 rfl) <| .n (sa ag26 rfl) <| .nil <| .seq <| .ret <| .seq_ret <| fin_1 (.inr rfl) (.k rfl (.nil _)) Tryz.results85 (.a ag26 rfl) (AVle.refl _)
  · refine .skip <| .seq <| .seq <| .draw mixed <| .p (mv rfl) <| .p (la ag26 rfl) <| .p (mv rfl) <| .p (nc rfl) <| .p (fa 1 fl45_1 rfl) <| .p (ls sc3 rfl) <| .bind fun x3 h3 => .p (c0 (dyad_Round_p h3) rfl) <| .p (xt rfl) <| .p (xt rfl) <| ?_
    refine .bind fun x4 h4 => .w (cl (iv_Calc_take_k h4) [0] [] [true] rfl (.p rfl <| .a kApiDy <| .i <| .nil) (.p rfl (.i <| .i <| .nil) .nil) fresh_nil (.cons (.v (.i <| .i <| .nil)) .nil) (ren_agg (K := kApiDy) _) (.turned .nil) rfl) <| .n (sa ag26 rfl) <| .nil (by kernel_rfl) <| .seq <| .ret <| fin_1 (.inr rfl) (.k rfl (.nil _)) Tryz.results85 (.a ag26 rfl) (AVle.refl _)
theorem iv_Calc_down_k {a0 : ApiDy} {a1 : Int} {a2 : Int} {r : ApiDy × Int} (h : iv_Calc_down a0 a1 a2 = some r) : Cal Tryz.prog 85 [(.ptr 0 0), (.agg (kApiDy.enc a0))] [(.live 45 [(.int .i64 a1), (.int .i64 a2)])] (.agg (kApiDy.enc (⟨((r.1).M), (r.1).E⟩ : ApiDy))) [(.live 45 [(.int .i64 r.2), (.int .i64 a2)])] := ⟨⟨_, Tryz.func85, nm85, rfl⟩, iv_Calc_down_c a0 a1 a2 _ h⟩

theorem iv_Calc_up_c (a0 : ApiDy) (a1 : Int) (a2 : Int) : ∀ r, iv_Calc_up a0 a1 a2 = some r → ACalls Tryz.prog 88 [(.ptr 0 0), (.agg (kApiDy.enc a0))] (lw [(.live 45 [(.int .i64 a1), (.int .i64 a2)])]) (.agg (kApiDy.enc (⟨((r.1).M), (r.1).E⟩ : ApiDy))) (ld [(.live 45 [(.int .i64 r.2), (.int .i64 a2)])]) := by
  unfold iv_Calc_up
  refine go 1 Tryz.func88 Tryz.ntmps88 rfl ?_
  intro E hE
  refine .seq <| .region <| .w (bx 1 rfl) <| .w (al 2 ze26 rfl) <| .nil <| .seq <| .seq <| .seq <| .region <| .p (mv rfl) <| .p (nc rfl) <| .p (fa 0 fl45_0 rfl) <| .p (fa 0 fl43_0 rfl) <| .p (ls sc29 rfl) <| ?_
  refine .p (ar rfl) <| .nil <| .seq <| ?_
  refine T.cond_p rfl iff_ne (fun h1 h2 => ?_) (fun h1 h2 => ?_)
  · refine .seq <| .region <| .p (bd ze26 pl26 rfl) <| .n (sa ag26 rfl) <| .nil <| .seq <| .ret <| .seq_ret <| fin_1 (.inr rfl) (.k rfl (.nil _)) Tryz.results88 (.a ag26 rfl) (AVle.refl _)
  · refine .skip <| .seq <| .seq <| .draw mixed <| .p (mv rfl) <| .p (la ag26 rfl) <| .p (mv rfl) <| .p (nc rfl) <| .p (fa 1 fl45_1 rfl) <| .p (ls sc3 rfl) <| .bind fun x3 h3 => .p (c0 (dyad_Round_p h3) rfl) <| .p (xt rfl) <| .p (xt rfl) <| ?_
    refine .bind fun x4 h4 => .w (cl (iv_Calc_take_k h4) [0] [] [true] rfl (.p rfl <| .a kApiDy <| .i <| .nil) (.p rfl (.i <| .i <| .nil) .nil) fresh_nil (.cons (.v (.i <| .i <| .nil)) .nil) (ren_agg (K := kApiDy) _) (.turned .nil) rfl) <| .n (sa ag26 rfl) <| .nil (by kernel_rfl) <| .seq <| .ret <| fin_1 (.inr rfl) (.k rfl (.nil _)) Tryz.results88 (.a ag26 rfl) (AVle.refl _)
theorem iv_Calc_up_k {a0 : ApiDy} {a1 : Int} {a2 : Int} {r : ApiDy × Int} (h : iv_Calc_up a0 a1 a2 = some r) : Cal Tryz.prog 88 [(.ptr 0 0), (.agg (kApiDy.enc a0))] [(.live 45 [(.int .i64 a1), (.int .i64 a2)])] (.agg (kApiDy.enc (⟨((r.1).M), (r.1).E⟩ : ApiDy))) [(.live 45 [(.int .i64 r.2), (.int .i64 a2)])] := ⟨⟨_, Tryz.func88, nm88, rfl⟩, iv_Calc_up_c a0 a1 a2 _ h⟩

theorem iv_Calc_Mul_c (a0 : ApiIv) (a1 : ApiIv) (a2 : Int) (a3 : Int) : ∀ r, iv_Calc_Mul a0 a1 a2 a3 = some r → ACalls Tryz.prog 25 [(.ptr 0 0), (.agg (kApiIv.enc a0)), (.agg (kApiIv.enc a1))] (lw [(.live 45 [(.int .i64 a2), (.int .i64 a3)])]) (.agg (kApiIv.enc (⟨⟨(((r.1).Lo).M), ((r.1).Lo).E⟩, ⟨(((r.1).Hi).M), ((r.1).Hi).E⟩⟩ : ApiIv))) (ld [(.live 45 [(.int .i64 r.2), (.int .i64 a3)])]) := by
  unfold iv_Calc_Mul
  refine go 1 Tryz.func25 Tryz.ntmps25 rfl ?_
  intro E hE
  refine .seq <| .region <| .w (bx 1 rfl) <| .w (bx 2 rfl) <| .w (al 3 ze34 rfl) <| .nil <| .seq <| .seq <| .seq <| .region <| .p (mv rfl) <| .p (la ag34 rfl) <| .p (la ag34 rfl) <| ?_
  refine TR.st 12 (slK kApiIv [a0, a1]) [] (snd_buildSlice _ _ _ 6 _ _ [(0, (.agg (kApiIv.enc a0))), (1, (.agg (kApiIv.enc a1)))] (List.map kApiIv.enc [a0, a1]) rfl Tryz.underlying104 ze34 si34 rfl rfl rfl (by decide) (by decide) (by decide) rfl rfl (Kd.even _) rfl) rfl rfl rfl ?_
  refine .bind fun x7 h1 => .w (cl (iv_Calc_fine_k h1) [0] [] [true] rfl (.p rfl <| .l <| .nil) (.p rfl (.i <| .i <| .nil) .nil) fresh_nil (.cons (.v (.i <| .i <| .nil)) .nil) (.bool _) (.turned .nil) rfl) <| .p (un rfl) <| .nil <| .seq <| ?_
  refine T.cond_p rfl iff_nb (fun h2 h3 => ?_) (fun h2 h3 => ?_)
  · refine .seq <| .region <| .p (bd ze34 pl34 rfl) <| .n (sa ag34 rfl) <| .nil <| .seq <| .ret <| .seq_ret <| fin_1 (.inr rfl) (.k rfl (.nil _)) Tryz.results25 (.a ag34 rfl) (AVle.refl _)
  · refine .skip <| .seq <| .seq <| .region <| .p (mv rfl) <| .p (la ag34 rfl) <| .p (la ag34 rfl) <| .bind fun x8 h4 => .w (cl (iv_Calc_four_6ec2_k h4) [0] [] [true] rfl (.p rfl <| .a kApiIv <| .a kApiIv <| .cons (ren_fnL _ .nil .nil) <| .nil) (.p rfl (.i <| .i <| .nil) .nil) fresh_nil (.cons (.v (.i <| .i <| .nil)) .nil) (ren_sl _) (.turned .nil) rfl) <| .bind fun x9 h5 => .p (c0 (iv_ends_p h5) rfl) <| .p (mv rfl) <| .p (xt rfl) <| .p (xt rfl) <| ?_
    refine .w (al 4 ze26 rfl) <| .w (al 5 ze26 rfl) <| .n (sa ag26 rfl) <| .n (sa ag26 rfl) <| .nil <| .seq <| .seq <| .region <| .p (mv rfl) <| .p (la ag26 rfl) <| .bind fun x10 h6 => .w (cl (iv_Calc_down_k h6) [0] [] [true] rfl (.p rfl <| .a kApiDy <| .nil) (.p rfl (.i <| .i <| .nil) .nil) fresh_nil (.cons (.v (.i <| .i <| .nil)) .nil) (ren_agg (K := kApiDy) _) (.turned .nil) rfl) <| .n (sa ag26 rfl) <| .nil <| ?_
    refine .seq <| .seq <| .draw mixed <| .p (mv rfl) <| .p (la ag26 rfl) <| .p (mv rfl) <| .p (la ag26 rfl) <| .bind fun x11 h7 => .w (cl (iv_Calc_up_k h7) [0] [] [true] rfl (.p rfl <| .a kApiDy <| .nil) (.p rfl (.i <| .i <| .nil) .nil) fresh_nil (.cons (.v (.i <| .i <| .nil)) .nil) (ren_agg (K := kApiDy) _) (.turned .nil) rfl) <| .bind fun x12 h8 => .p (cl (iv_Calc_out_k h8) [0] [] [false] rfl (.p rfl <| .a kApiDy <| .a kApiDy <| .nil) (.p rfl (.i <| .i <| .nil) .nil) fresh_nil (.cons (.v (.i <| .i <| .nil)) .nil) (ren_agg (K := kApiIv) _) (.kept rfl .nil) rfl) <| .n (sa ag34 rfl) <| .nil (by kernel_rfl) <| .seq <| ?_
    refine .ret <| fin_1 (.inr rfl) (.k rfl (.nil _)) Tryz.results25 (.a ag34 rfl) (AVle.refl _)
theorem iv_Calc_Mul_k {a0 : ApiIv} {a1 : ApiIv} {a2 : Int} {a3 : Int} {r : ApiIv × Int} (h : iv_Calc_Mul a0 a1 a2 a3 = some r) : Cal Tryz.prog 25 [(.ptr 0 0), (.agg (kApiIv.enc a0)), (.agg (kApiIv.enc a1))] [(.live 45 [(.int .i64 a2), (.int .i64 a3)])] (.agg (kApiIv.enc (⟨⟨(((r.1).Lo).M), ((r.1).Lo).E⟩, ⟨(((r.1).Hi).M), ((r.1).Hi).E⟩⟩ : ApiIv))) [(.live 45 [(.int .i64 r.2), (.int .i64 a3)])] := ⟨⟨_, Tryz.func25, nm25, rfl⟩, iv_Calc_Mul_c a0 a1 a2 a3 _ h⟩

theorem iv_In_c (a0 : ApiIv) (a1 : ApiIv) : ∀ r, iv_In a0 a1 = some r → ACalls Tryz.prog 32 [(.agg (kApiIv.enc a0)), (.agg (kApiIv.enc a1))] (lw []) (.bool r) (ld []) := by
  unfold iv_In
  refine go 0 Tryz.func32 Tryz.ntmps32 rfl ?_
  intro E hE
  refine .seq <| .region <| .w (bx 0 rfl) <| .w (bx 1 rfl) <| .p (sg rfl) <| .nil <| .seq <| .seq <| ?_
  refine T.cut (X := Bool) (fun x => iv_In_j1 x) (fun x => (mkS [(4, some (.bool x))] [])) ?_ ?_
  · rintro y11
    dsimp only [iv_In_j1]
    refine .seq <| .ret <| fin_1 (.inr rfl) (.nil _) Tryz.results32 (.t rfl) (AVle.refl _)
  · intro h6
    refine .region <| .p (la ag34 rfl) <| .bind fun x12 h7 => .p (c0 (iv_Right_p h7) rfl) <| .p (mv rfl) <| ?_
    refine TR.gd 7 _ rfl iff_b (fun h8 => ?_) (fun h8 => ?_)
    · refine .p (la ag34 rfl) <| .p (fa 0 fl34_0 rfl) <| .p (la ag26 rfl) <| .bind fun x13 h9 => .p (c0 (iv_Has_p h9) rfl) <| .p (pt rfl) <| .p (mv rfl) <| ?_
      refine TR.gd 13 _ rfl iff_b (fun h10 => ?_) (fun h10 => ?_)
      · refine .p (la ag34 rfl) <| .p (fa 3 fl34_1 rfl) <| .p (la ag26 rfl) <| .bind fun x14 h11 => .p (c0 (iv_Has_p h11) rfl) <| .p (pt rfl) <| .p (sg rfl) <| .nil <| .weak (h6 x14) (jn (m := 0) [] hE (.b rfl <| .nil) .nil rfl)
      · refine .k rfl <| .k rfl <| .k rfl <| .k rfl <| .p (pf rfl) <| .p (sg rfl) <| .nil <| .weak (h6 false) (jn (m := 0) [] hE (.b rfl <| .nil) .nil rfl)
    · refine .k rfl <| .k rfl <| .k rfl <| .k rfl <| .p (pf rfl) <| .p (mv rfl) <| .k rfl <| .k rfl <| .k rfl <| .k rfl <| .p (pf rfl) <| .p (sg rfl) <| .nil <| .weak (h6 false) (jn (m := 0) [] hE (.b rfl <| .nil) .nil rfl)
theorem iv_In_p {a0 : ApiIv} {a1 : ApiIv} {r : Bool} (h : iv_In a0 a1 = some r) : Pur Tryz.prog 32 [(.agg (kApiIv.enc a0)), (.agg (kApiIv.enc a1))] (.bool r) := ⟨⟨_, Tryz.func32, nm32, rfl⟩, iv_In_c a0 a1 _ h, fun _ => (.a kApiIv <| .a kApiIv <| .nil), fun _ => (.bool _)⟩

theorem dyad_Add_c (a0 : ApiDy) (a1 : ApiDy) : ∀ r, dyad_Add a0 a1 = some r → ACalls Tryz.prog 19 [(.agg (kApiDy.enc a0)), (.agg (kApiDy.enc a1))] (lw []) (.tup [(.agg (kApiDy.enc (⟨((r.1).M), (r.1).E⟩ : ApiDy))), (.int .i64 r.2)]) (ld []) := by
  unfold dyad_Add
  refine go 0 Tryz.func19 Tryz.ntmps19 rfl ?_
  intro E hE
  refine .seq <| .region <| .w (bx 0 rfl) <| .w (bx 1 rfl) <| .w (al 2 ze26 rfl) <| .p (sg rfl) <| .nil <| .seq <| .seq <| .region <| .p (bd ze85 pl85 rfl) <| .w (bx 3 rfl) <| .p (sg rfl) <| .nil <| ?_
  refine .seq <| .seq <| .seq <| .region <| .p (mv rfl) <| .p (la ag26 rfl) <| .p (la ag26 rfl) <| ?_
  refine TR.st 12 (slK kApiDy [a0, a1]) [] (snd_buildSlice _ _ _ 3 _ _ [(0, (.agg (kApiDy.enc a0))), (1, (.agg (kApiDy.enc a1)))] (List.map kApiDy.enc [a0, a1]) rfl Tryz.underlying96 ze26 si26 rfl rfl rfl (by decide) (by decide) (by decide) rfl rfl (Kd.even _) rfl) rfl rfl rfl ?_
  refine .bind fun x8 h1 => .w (cl (dyad_work_right_k h1) [3] [] [true] rfl (.p rfl <| .l <| .nil) (.p rfl (.i <| .b <| .l <| .i <| .nil) .nil) fresh_nil (.cons (.v (.i <| .b <| .l <| .i <| .nil)) .nil) (.bool _) (.turned .nil) rfl) <| .nil <| .seq <| ?_
  refine T.cut (X := Bool × (List Int) × Int) (fun x => dyad_Add_j1 x8 x.1 x.2.1 x.2.2) (fun x => (mkS [(4, some (.ptr 2 0)), (6, some (.ptr 3 0))] [(2, (.live 26 [(.bool false), (slK (kInt .u32) []), (.int .i64 0)])), (3, (.live 85 [(.int .i64 x8.2), (.bool x.1), (slK (kInt .u32) x.2.1), (.int .i64 x.2.2)]))])) ?_ ?_
  · rintro ⟨y10, y11, y12⟩
    dsimp only [dyad_Add_j1]
    refine .seq <| .seq <| .region <| .p (mv rfl) <| .bind fun x13 h5 => .w (cl (dyad_work_told_k h5) [3] [] [true] rfl (.p rfl <| .nil) (.p rfl (.i <| .b <| .l <| .i <| .nil) .nil) fresh_nil (.cons (.v (.i <| .b <| .l <| .i <| .nil)) .nil) (ren_tupL (.a kApiDy <| .i <| .nil)) (.turned .nil) rfl) <| .p (xt rfl) <| .p (xt rfl) <| .n (sa ag26 rfl) <| .p (sg rfl) <| .nil <| .seq <| .ret <| fin_2 (.inr rfl) (.nil _) Tryz.results19 (.a ag26 rfl) (.t rfl) (AVle.refl _)
  · intro h6
    refine T.cond_p rfl iff_b (fun h7 h8 => ?_) (fun h7 h8 => ?_)
    · refine .region <| .p (mv rfl) <| .p (la ag26 rfl) <| .p (la ag26 rfl) <| .bind fun x14 h9 => .p (c0 (dyad_sum_p h9) rfl) <| .p (nc rfl) <| .p (fa 1 fl85_1 rfl) <| .n (sa ag26 rfl) <| .nil <| .weak (h6 (((x14).M).Neg, ((x14).M).Mag, (x14).E)) (jn (m := 0) [(2, 2), (3, 3)] hE (.p rfl rfl <| .p rfl rfl <| .nil) (.v rfl (.b <| .l <| .i <| .nil) <| .v rfl (.i <| .b <| .l <| .i <| .nil) <| .nil) rfl)
    · refine .skip <| .weak (h6 (false, [], 0)) (jn (m := 0) [(2, 2), (3, 3)] hE (.p rfl rfl <| .p rfl rfl <| .nil) (.v rfl (.b <| .l <| .i <| .nil) <| .v rfl (.i <| .b <| .l <| .i <| .nil) <| .nil) rfl)
theorem dyad_Add_p {a0 : ApiDy} {a1 : ApiDy} {r : ApiDy × Int} (h : dyad_Add a0 a1 = some r) : Pur Tryz.prog 19 [(.agg (kApiDy.enc a0)), (.agg (kApiDy.enc a1))] (.tup [(.agg (kApiDy.enc (⟨((r.1).M), (r.1).E⟩ : ApiDy))), (.int .i64 r.2)]) := ⟨⟨_, Tryz.func19, nm19, rfl⟩, dyad_Add_c a0 a1 _ h, fun _ => (.a kApiDy <| .a kApiDy <| .nil), fun _ => (ren_tupL (.a kApiDy <| .i <| .nil))⟩

theorem iv_Calc_sum_c (a0 : ApiDy) (a1 : ApiDy) (a2 : Int) (a3 : Int) : ∀ r, iv_Calc_sum a0 a1 a2 a3 = some r → ACalls Tryz.prog 86 [(.ptr 0 0), (.agg (kApiDy.enc a0)), (.agg (kApiDy.enc a1))] (lw [(.live 45 [(.int .i64 a2), (.int .i64 a3)])]) (.agg (kApiDy.enc (⟨((r.1).M), (r.1).E⟩ : ApiDy))) (ld [(.live 45 [(.int .i64 r.2), (.int .i64 a3)])]) := by
  unfold iv_Calc_sum
  refine go 1 Tryz.func86 Tryz.ntmps86 rfl ?_
  intro E hE
  refine .seq <| .region <| .w (bx 1 rfl) <| .w (bx 2 rfl) <| .w (al 3 ze26 rfl) <| .nil <| .seq <| .seq <| .seq <| .region <| .p (mv rfl) <| .p (nc rfl) <| .p (fa 0 fl45_0 rfl) <| .p (fa 0 fl43_0 rfl) <| ?_
  refine .p (ls sc29 rfl) <| .p (ar rfl) <| .nil <| .seq <| ?_
  refine T.cond_p rfl iff_ne (fun h1 h2 => ?_) (fun h1 h2 => ?_)
  · refine .seq <| .region <| .p (bd ze26 pl26 rfl) <| .n (sa ag26 rfl) <| .nil <| .seq <| .ret <| .seq_ret <| fin_1 (.inr rfl) (.k rfl (.nil _)) Tryz.results86 (.a ag26 rfl) (AVle.refl _)
  · refine .skip <| .seq <| .seq <| .region <| .p (mv rfl) <| .p (la ag26 rfl) <| .p (la ag26 rfl) <| .bind fun x3 h3 => .p (c0 (dyad_Add_p h3) rfl) <| .p (xt rfl) <| .p (xt rfl) <| .bind fun x4 h4 => .w (cl (iv_Calc_take_k h4) [0] [] [true] rfl (.p rfl <| .a kApiDy <| .i <| .nil) (.p rfl (.i <| .i <| .nil) .nil) fresh_nil (.cons (.v (.i <| .i <| .nil)) .nil) (ren_agg (K := kApiDy) _) (.turned .nil) rfl) <| .n (sa ag26 rfl) <| ?_
    refine .nil <| .seq <| .ret <| fin_1 (.inr rfl) (.k rfl (.nil _)) Tryz.results86 (.a ag26 rfl) (AVle.refl _)
theorem iv_Calc_sum_k {a0 : ApiDy} {a1 : ApiDy} {a2 : Int} {a3 : Int} {r : ApiDy × Int} (h : iv_Calc_sum a0 a1 a2 a3 = some r) : Cal Tryz.prog 86 [(.ptr 0 0), (.agg (kApiDy.enc a0)), (.agg (kApiDy.enc a1))] [(.live 45 [(.int .i64 a2), (.int .i64 a3)])] (.agg (kApiDy.enc (⟨((r.1).M), (r.1).E⟩ : ApiDy))) [(.live 45 [(.int .i64 r.2), (.int .i64 a3)])] := ⟨⟨_, Tryz.func86, nm86, rfl⟩, iv_Calc_sum_c a0 a1 a2 a3 _ h⟩

theorem iv_Calc_Add_c (a0 : ApiIv) (a1 : ApiIv) (a2 : Int) (a3 : Int) : ∀ r, iv_Calc_Add a0 a1 a2 a3 = some r → ACalls Tryz.prog 23 [(.ptr 0 0), (.agg (kApiIv.enc a0)), (.agg (kApiIv.enc a1))] (lw [(.live 45 [(.int .i64 a2), (.int .i64 a3)])]) (.agg (kApiIv.enc (⟨⟨(((r.1).Lo).M), ((r.1).Lo).E⟩, ⟨(((r.1).Hi).M), ((r.1).Hi).E⟩⟩ : ApiIv))) (ld [(.live 45 [(.int .i64 r.2), (.int .i64 a3)])]) := by
  unfold iv_Calc_Add
  refine go 1 Tryz.func23 Tryz.ntmps23 rfl ?_
  intro E hE
  refine .seq <| .region <| .w (bx 1 rfl) <| .w (bx 2 rfl) <| .w (al 3 ze34 rfl) <| .nil <| .seq <| .seq <| .seq <| .region <| .p (mv rfl) <| .p (la ag34 rfl) <| .p (la ag34 rfl) <| ?_
  refine TR.st 11 (slK kApiIv [a0, a1]) [] (snd_buildSlice _ _ _ 6 _ _ [(0, (.agg (kApiIv.enc a0))), (1, (.agg (kApiIv.enc a1)))] (List.map kApiIv.enc [a0, a1]) rfl Tryz.underlying104 ze34 si34 rfl rfl rfl (by decide) (by decide) (by decide) rfl rfl (Kd.even _) rfl) rfl rfl rfl ?_
  refine .bind fun x7 h1 => .w (cl (iv_Calc_fine_k h1) [0] [] [true] rfl (.p rfl <| .l <| .nil) (.p rfl (.i <| .i <| .nil) .nil) fresh_nil (.cons (.v (.i <| .i <| .nil)) .nil) (.bool _) (.turned .nil) rfl) <| .p (un rfl) <| .nil <| .seq <| ?_
  refine T.cond_p rfl iff_nb (fun h2 h3 => ?_) (fun h2 h3 => ?_)
  · refine .seq <| .region <| .p (bd ze34 pl34 rfl) <| .n (sa ag34 rfl) <| .nil <| .seq <| .ret <| .seq_ret <| fin_1 (.inr rfl) (.k rfl (.nil _)) Tryz.results23 (.a ag34 rfl) (AVle.refl _)
  · refine .skip <| .seq <| .seq <| .region <| .p (mv rfl) <| .p (mv rfl) <| .p (fa 0 fl34_0 rfl) <| .p (la ag26 rfl) <| .p (fa 0 fl34_0 rfl) <| .p (la ag26 rfl) <| .bind fun x8 h4 => .w (cl (iv_Calc_sum_k h4) [0] [] [true] rfl (.p rfl <| .a kApiDy <| .a kApiDy <| .nil) (.p rfl (.i <| .i <| .nil) .nil) fresh_nil (.cons (.v (.i <| .i <| .nil)) .nil) (ren_agg (K := kApiDy) _) (.turned .nil) rfl) <| .bind fun x9 h5 => .w (cl (iv_Calc_down_k h5) [0] [] [true] rfl (.p rfl <| .a kApiDy <| .nil) (.p rfl (.i <| .i <| .nil) .nil) fresh_nil (.cons (.v (.i <| .i <| .nil)) .nil) (ren_agg (K := kApiDy) _) (.turned .nil) rfl) <| ?_
    refine .w (al 4 ze26 rfl) <| .n (sa ag26 rfl) <| .nil <| .seq <| .seq <| .draw mixed <| .p (mv rfl) <| .p (la ag26 rfl) <| .p (mv rfl) <| .p (mv rfl) <| .p (fa 3 fl34_1 rfl) <| .p (la ag26 rfl) <| .p (fa 3 fl34_1 rfl) <| .p (la ag26 rfl) <| ?_
    refine .bind fun x10 h6 => .w (cl (iv_Calc_sum_k h6) [0] [] [true] rfl (.p rfl <| .a kApiDy <| .a kApiDy <| .nil) (.p rfl (.i <| .i <| .nil) .nil) fresh_nil (.cons (.v (.i <| .i <| .nil)) .nil) (ren_agg (K := kApiDy) _) (.turned .nil) rfl) <| .bind fun x11 h7 => .w (cl (iv_Calc_up_k h7) [0] [] [true] rfl (.p rfl <| .a kApiDy <| .nil) (.p rfl (.i <| .i <| .nil) .nil) fresh_nil (.cons (.v (.i <| .i <| .nil)) .nil) (ren_agg (K := kApiDy) _) (.turned .nil) rfl) <| .bind fun x12 h8 => .p (cl (iv_Calc_out_k h8) [0] [] [false] rfl (.p rfl <| .a kApiDy <| .a kApiDy <| .nil) (.p rfl (.i <| .i <| .nil) .nil) fresh_nil (.cons (.v (.i <| .i <| .nil)) .nil) (ren_agg (K := kApiIv) _) (.kept rfl .nil) rfl) <| .n (sa ag34 rfl) <| .nil (by kernel_rfl) <| .seq <| .ret <| fin_1 (.inr rfl) (.k rfl (.nil _)) Tryz.results23 (.a ag34 rfl) (AVle.refl _)
theorem iv_Calc_Add_k {a0 : ApiIv} {a1 : ApiIv} {a2 : Int} {a3 : Int} {r : ApiIv × Int} (h : iv_Calc_Add a0 a1 a2 a3 = some r) : Cal Tryz.prog 23 [(.ptr 0 0), (.agg (kApiIv.enc a0)), (.agg (kApiIv.enc a1))] [(.live 45 [(.int .i64 a2), (.int .i64 a3)])] (.agg (kApiIv.enc (⟨⟨(((r.1).Lo).M), ((r.1).Lo).E⟩, ⟨(((r.1).Hi).M), ((r.1).Hi).E⟩⟩ : ApiIv))) [(.live 45 [(.int .i64 r.2), (.int .i64 a3)])] := ⟨⟨_, Tryz.func23, nm23, rfl⟩, iv_Calc_Add_c a0 a1 a2 a3 _ h⟩

theorem iv_Calc_Neg_c (a0 : ApiIv) (a1 : Int) (a2 : Int) : ∀ r, iv_Calc_Neg a0 a1 a2 = some r → ACalls Tryz.prog 33 [(.ptr 0 0), (.agg (kApiIv.enc a0))] (lw [(.live 45 [(.int .i64 a1), (.int .i64 a2)])]) (.agg (kApiIv.enc (⟨⟨(((r.1).Lo).M), ((r.1).Lo).E⟩, ⟨(((r.1).Hi).M), ((r.1).Hi).E⟩⟩ : ApiIv))) (ld [(.live 45 [(.int .i64 r.2), (.int .i64 a2)])]) := by
  unfold iv_Calc_Neg
  refine go 1 Tryz.func33 Tryz.ntmps33 rfl ?_
  intro E hE
  refine .seq <| .region <| .w (bx 1 rfl) <| .w (al 2 ze34 rfl) <| .nil <| .seq <| .seq <| .seq <| .region <| .p (mv rfl) <| .p (la ag34 rfl) <| ?_
  refine TR.st 7 (slK kApiIv [a0]) [] (snd_buildSlice _ _ _ 6 _ _ [(0, (.agg (kApiIv.enc a0)))] (List.map kApiIv.enc [a0]) rfl Tryz.underlying104 ze34 si34 rfl rfl rfl (by decide) (by decide) (by decide) rfl rfl (Kd.even _) rfl) rfl rfl rfl ?_
  refine .bind fun x4 h1 => .w (cl (iv_Calc_fine_k h1) [0] [] [true] rfl (.p rfl <| .l <| .nil) (.p rfl (.i <| .i <| .nil) .nil) fresh_nil (.cons (.v (.i <| .i <| .nil)) .nil) (.bool _) (.turned .nil) rfl) <| .p (un rfl) <| .nil <| .seq <| ?_
  refine T.cond_p rfl iff_nb (fun h2 h3 => ?_) (fun h2 h3 => ?_)
  · refine .seq <| .region <| .p (bd ze34 pl34 rfl) <| .n (sa ag34 rfl) <| .nil <| .seq <| .ret <| .seq_ret <| fin_1 (.inr rfl) (.k rfl (.nil _)) Tryz.results33 (.a ag34 rfl) (AVle.refl _)
  · refine .skip <| .seq <| .seq <| .draw mixed <| .p (fa 3 fl34_1 rfl) <| .p (la ag26 rfl) <| .bind fun x5 h4 => .p (c0 (dyad_Neg_p h4) rfl) <| .p (fa 0 fl34_0 rfl) <| .p (la ag26 rfl) <| .bind fun x6 h5 => .p (c0 (dyad_Neg_p h5) rfl) <| .p (bd ze34 pl34 rfl) <| .n (sa ag34 rfl) <| ?_
    refine .nil (by kernel_rfl) <| .seq <| .ret <| fin_1 (.inr rfl) (.k rfl (.nil _)) Tryz.results33 (.a ag34 rfl) (AVle.refl _)
theorem iv_Calc_Neg_k {a0 : ApiIv} {a1 : Int} {a2 : Int} {r : ApiIv × Int} (h : iv_Calc_Neg a0 a1 a2 = some r) : Cal Tryz.prog 33 [(.ptr 0 0), (.agg (kApiIv.enc a0))] [(.live 45 [(.int .i64 a1), (.int .i64 a2)])] (.agg (kApiIv.enc (⟨⟨(((r.1).Lo).M), ((r.1).Lo).E⟩, ⟨(((r.1).Hi).M), ((r.1).Hi).E⟩⟩ : ApiIv))) [(.live 45 [(.int .i64 r.2), (.int .i64 a2)])] := ⟨⟨_, Tryz.func33, nm33, rfl⟩, iv_Calc_Neg_c a0 a1 a2 _ h⟩

theorem iv_Calc_Out_c (a0 : ApiIv) (a1 : Int) (a2 : Int) : ∀ r, iv_Calc_Out a0 a1 a2 = some r → ACalls Tryz.prog 34 [(.ptr 0 0), (.agg (kApiIv.enc a0))] (lw [(.live 45 [(.int .i64 a1), (.int .i64 a2)])]) (.agg (kApiIv.enc (⟨⟨(((r.1).Lo).M), ((r.1).Lo).E⟩, ⟨(((r.1).Hi).M), ((r.1).Hi).E⟩⟩ : ApiIv))) (ld [(.live 45 [(.int .i64 r.2), (.int .i64 a2)])]) := by
  unfold iv_Calc_Out
  refine go 1 Tryz.func34 Tryz.ntmps34 rfl ?_
  intro E hE
  refine .seq <| .region <| .w (bx 1 rfl) <| .w (al 2 ze34 rfl) <| .nil <| .seq <| .seq <| .seq <| .region <| .p (mv rfl) <| .p (la ag34 rfl) <| ?_
  refine TR.st 8 (slK kApiIv [a0]) [] (snd_buildSlice _ _ _ 6 _ _ [(0, (.agg (kApiIv.enc a0)))] (List.map kApiIv.enc [a0]) rfl Tryz.underlying104 ze34 si34 rfl rfl rfl (by decide) (by decide) (by decide) rfl rfl (Kd.even _) rfl) rfl rfl rfl ?_
  refine .bind fun x5 h1 => .w (cl (iv_Calc_fine_k h1) [0] [] [true] rfl (.p rfl <| .l <| .nil) (.p rfl (.i <| .i <| .nil) .nil) fresh_nil (.cons (.v (.i <| .i <| .nil)) .nil) (.bool _) (.turned .nil) rfl) <| .p (un rfl) <| .nil <| .seq <| ?_
  refine T.cond_p rfl iff_nb (fun h2 h3 => ?_) (fun h2 h3 => ?_)
  · refine .seq <| .region <| .p (bd ze34 pl34 rfl) <| .n (sa ag34 rfl) <| .nil <| .seq <| .ret <| .seq_ret <| fin_1 (.inr rfl) (.k rfl (.nil _)) Tryz.results34 (.a ag34 rfl) (AVle.refl _)
  · refine .skip <| .seq <| .seq <| .region <| .p (mv rfl) <| .p (fa 0 fl34_0 rfl) <| .p (la ag26 rfl) <| .bind fun x6 h4 => .w (cl (iv_Calc_down_k h4) [0] [] [true] rfl (.p rfl <| .a kApiDy <| .nil) (.p rfl (.i <| .i <| .nil) .nil) fresh_nil (.cons (.v (.i <| .i <| .nil)) .nil) (ren_agg (K := kApiDy) _) (.turned .nil) rfl) <| .w (al 3 ze26 rfl) <| .n (sa ag26 rfl) <| .nil <| .seq <| .seq <| ?_
    refine .draw mixed <| .p (mv rfl) <| .p (la ag26 rfl) <| .p (mv rfl) <| .p (fa 3 fl34_1 rfl) <| .p (la ag26 rfl) <| .bind fun x7 h5 => .w (cl (iv_Calc_up_k h5) [0] [] [true] rfl (.p rfl <| .a kApiDy <| .nil) (.p rfl (.i <| .i <| .nil) .nil) fresh_nil (.cons (.v (.i <| .i <| .nil)) .nil) (ren_agg (K := kApiDy) _) (.turned .nil) rfl) <| .bind fun x8 h6 => .p (cl (iv_Calc_out_k h6) [0] [] [false] rfl (.p rfl <| .a kApiDy <| .a kApiDy <| .nil) (.p rfl (.i <| .i <| .nil) .nil) fresh_nil (.cons (.v (.i <| .i <| .nil)) .nil) (ren_agg (K := kApiIv) _) (.kept rfl .nil) rfl) <| .n (sa ag34 rfl) <| .nil (by kernel_rfl) <| .seq <| .ret <| fin_1 (.inr rfl) (.k rfl (.nil _)) Tryz.results34 (.a ag34 rfl) (AVle.refl _)
theorem iv_Calc_Out_k {a0 : ApiIv} {a1 : Int} {a2 : Int} {r : ApiIv × Int} (h : iv_Calc_Out a0 a1 a2 = some r) : Cal Tryz.prog 34 [(.ptr 0 0), (.agg (kApiIv.enc a0))] [(.live 45 [(.int .i64 a1), (.int .i64 a2)])] (.agg (kApiIv.enc (⟨⟨(((r.1).Lo).M), ((r.1).Lo).E⟩, ⟨(((r.1).Hi).M), ((r.1).Hi).E⟩⟩ : ApiIv))) [(.live 45 [(.int .i64 r.2), (.int .i64 a2)])] := ⟨⟨_, Tryz.func34, nm34, rfl⟩, iv_Calc_Out_c a0 a1 a2 _ h⟩

theorem iv_Calc_Wide_c (a0 : ApiIv) (a1 : ApiDy) (a2 : Int) (a3 : Int) : ∀ r, iv_Calc_Wide a0 a1 a2 a3 = some r → ACalls Tryz.prog 35 [(.ptr 0 0), (.agg (kApiIv.enc a0)), (.agg (kApiDy.enc a1))] (lw [(.live 45 [(.int .i64 a2), (.int .i64 a3)])]) (.agg (kApiIv.enc (⟨⟨(((r.1).Lo).M), ((r.1).Lo).E⟩, ⟨(((r.1).Hi).M), ((r.1).Hi).E⟩⟩ : ApiIv))) (ld [(.live 45 [(.int .i64 r.2), (.int .i64 a3)])]) := by
  unfold iv_Calc_Wide
  refine go 1 Tryz.func35 Tryz.ntmps35 rfl ?_
  intro E hE
  refine .seq <| .region <| .w (bx 1 rfl) <| .w (bx 2 rfl) <| .w (al 3 ze34 rfl) <| .nil <| .seq <| .seq <| .seq <| .region <| .p (mv rfl) <| .p (la ag34 rfl) <| .p (la ag26 rfl) <| .p (bd ze34 pl34 rfl) <| ?_
  refine TR.st 12 (slK kApiIv [a0, (⟨⟨⟨false, []⟩, 0⟩, a1⟩ : ApiIv)]) [] (snd_buildSlice _ _ _ 6 _ _ [(0, (.agg (kApiIv.enc a0))), (1, (.agg (kApiIv.enc (⟨⟨⟨false, []⟩, 0⟩, a1⟩ : ApiIv))))] (List.map kApiIv.enc [a0, (⟨⟨⟨false, []⟩, 0⟩, a1⟩ : ApiIv)]) rfl Tryz.underlying104 ze34 si34 rfl rfl rfl (by decide) (by decide) (by decide) rfl rfl (Kd.even _) rfl) rfl rfl rfl ?_
  refine .bind fun x8 h1 => .w (cl (iv_Calc_fine_k h1) [0] [] [true] rfl (.p rfl <| .l <| .nil) (.p rfl (.i <| .i <| .nil) .nil) fresh_nil (.cons (.v (.i <| .i <| .nil)) .nil) (.bool _) (.turned .nil) rfl) <| .p (un rfl) <| .nil <| .seq <| ?_
  refine T.cond_p rfl iff_nb (fun h2 h3 => ?_) (fun h2 h3 => ?_)
  · refine .seq <| .region <| .p (bd ze34 pl34 rfl) <| .n (sa ag34 rfl) <| .nil <| .seq <| .ret <| .seq_ret <| fin_1 (.inr rfl) (.k rfl (.nil _)) Tryz.results35 (.a ag34 rfl) (AVle.refl _)
  · refine .skip <| .seq <| .seq <| .draw mixed <| .p (mv rfl) <| .p (mv rfl) <| .p (fa 0 fl34_0 rfl) <| .p (la ag26 rfl) <| .p (la ag26 rfl) <| .bind fun x9 h4 => .p (c0 (dyad_Neg_p h4) rfl) <| .bind fun x10 h5 => .w (cl (iv_Calc_sum_k h5) [0] [] [true] rfl (.p rfl <| .a kApiDy <| .a kApiDy <| .nil) (.p rfl (.i <| .i <| .nil) .nil) fresh_nil (.cons (.v (.i <| .i <| .nil)) .nil) (ren_agg (K := kApiDy) _) (.turned .nil) rfl) <| .bind fun x11 h6 => ?_
    refine .w (cl (iv_Calc_down_k h6) [0] [] [true] rfl (.p rfl <| .a kApiDy <| .nil) (.p rfl (.i <| .i <| .nil) .nil) fresh_nil (.cons (.v (.i <| .i <| .nil)) .nil) (ren_agg (K := kApiDy) _) (.turned .nil) rfl) <| .w (al 4 ze26 rfl) <| .n (sa ag26 rfl) <| .nil (by kernel_rfl) <| .seq <| .seq <| .draw mixed <| .p (mv rfl) <| .p (la ag26 rfl) <| .p (mv rfl) <| .p (mv rfl) <| .p (fa 3 fl34_1 rfl) <| .p (la ag26 rfl) <| .p (la ag26 rfl) <| ?_
    refine .bind fun x12 h7 => .w (cl (iv_Calc_sum_k h7) [0] [] [true] rfl (.p rfl <| .a kApiDy <| .a kApiDy <| .nil) (.p rfl (.i <| .i <| .nil) .nil) fresh_nil (.cons (.v (.i <| .i <| .nil)) .nil) (ren_agg (K := kApiDy) _) (.turned .nil) rfl) <| .bind fun x13 h8 => .w (cl (iv_Calc_up_k h8) [0] [] [true] rfl (.p rfl <| .a kApiDy <| .nil) (.p rfl (.i <| .i <| .nil) .nil) fresh_nil (.cons (.v (.i <| .i <| .nil)) .nil) (ren_agg (K := kApiDy) _) (.turned .nil) rfl) <| .bind fun x14 h9 => .p (cl (iv_Calc_out_k h9) [0] [] [false] rfl (.p rfl <| .a kApiDy <| .a kApiDy <| .nil) (.p rfl (.i <| .i <| .nil) .nil) fresh_nil (.cons (.v (.i <| .i <| .nil)) .nil) (ren_agg (K := kApiIv) _) (.kept rfl .nil) rfl) <| .n (sa ag34 rfl) <| .nil (by kernel_rfl) <| .seq <| .ret <| fin_1 (.inr rfl) (.k rfl (.nil _)) Tryz.results35 (.a ag34 rfl) (AVle.refl _)
theorem iv_Calc_Wide_k {a0 : ApiIv} {a1 : ApiDy} {a2 : Int} {a3 : Int} {r : ApiIv × Int} (h : iv_Calc_Wide a0 a1 a2 a3 = some r) : Cal Tryz.prog 35 [(.ptr 0 0), (.agg (kApiIv.enc a0)), (.agg (kApiDy.enc a1))] [(.live 45 [(.int .i64 a2), (.int .i64 a3)])] (.agg (kApiIv.enc (⟨⟨(((r.1).Lo).M), ((r.1).Lo).E⟩, ⟨(((r.1).Hi).M), ((r.1).Hi).E⟩⟩ : ApiIv))) [(.live 45 [(.int .i64 r.2), (.int .i64 a3)])] := ⟨⟨_, Tryz.func35, nm35, rfl⟩, iv_Calc_Wide_c a0 a1 a2 a3 _ h⟩

theorem iv_Calc_Meet_c (a0 : ApiIv) (a1 : ApiIv) (a2 : Int) (a3 : Int) : ∀ r, iv_Calc_Meet a0 a1 a2 a3 = some r → ACalls Tryz.prog 36 [(.ptr 0 0), (.agg (kApiIv.enc a0)), (.agg (kApiIv.enc a1))] (lw [(.live 45 [(.int .i64 a2), (.int .i64 a3)])]) (.agg (kApiIv.enc (⟨⟨(((r.1).Lo).M), ((r.1).Lo).E⟩, ⟨(((r.1).Hi).M), ((r.1).Hi).E⟩⟩ : ApiIv))) (ld [(.live 45 [(.int .i64 r.2), (.int .i64 a3)])]) := by
  unfold iv_Calc_Meet
  refine go 1 Tryz.func36 Tryz.ntmps36 rfl ?_
  intro E hE
  refine .seq <| .region <| .w (bx 1 rfl) <| .w (bx 2 rfl) <| .w (al 3 ze34 rfl) <| .nil <| .seq <| .seq <| .seq <| .region <| .p (mv rfl) <| .p (la ag34 rfl) <| .p (la ag34 rfl) <| ?_
  refine TR.st 14 (slK kApiIv [a0, a1]) [] (snd_buildSlice _ _ _ 6 _ _ [(0, (.agg (kApiIv.enc a0))), (1, (.agg (kApiIv.enc a1)))] (List.map kApiIv.enc [a0, a1]) rfl Tryz.underlying104 ze34 si34 rfl rfl rfl (by decide) (by decide) (by decide) rfl rfl (Kd.even _) rfl) rfl rfl rfl ?_
  refine .bind fun x6 h1 => .w (cl (iv_Calc_fine_k h1) [0] [] [true] rfl (.p rfl <| .l <| .nil) (.p rfl (.i <| .i <| .nil) .nil) fresh_nil (.cons (.v (.i <| .i <| .nil)) .nil) (.bool _) (.turned .nil) rfl) <| .p (un rfl) <| .nil <| .seq <| ?_
  refine T.cond_p rfl iff_nb (fun h2 h3 => ?_) (fun h2 h3 => ?_)
  · refine .seq <| .region <| .p (bd ze34 pl34 rfl) <| .n (sa ag34 rfl) <| .nil <| .seq <| .ret <| .seq_ret <| fin_1 (.inr rfl) (.k rfl (.nil _)) Tryz.results36 (.a ag34 rfl) (AVle.refl _)
  · refine .skip <| .seq <| .seq <| .region <| .p (fa 0 fl34_0 rfl) <| .p (la ag26 rfl) <| .p (fa 0 fl34_0 rfl) <| .p (la ag26 rfl) <| ?_
    refine TR.st 23 (slK kApiDy [a0.Lo, a1.Lo]) [] (snd_buildSlice _ _ _ 3 _ _ [(0, (.agg (kApiDy.enc a0.Lo))), (1, (.agg (kApiDy.enc a1.Lo)))] (List.map kApiDy.enc [a0.Lo, a1.Lo]) rfl Tryz.underlying96 ze26 si26 rfl rfl rfl (by decide) (by decide) (by decide) rfl rfl (Kd.even _) rfl) rfl rfl rfl ?_
    refine .bind fun x7 h4 => .p (c0 (iv_ends_p h4) rfl) <| .p (mv rfl) <| .p (xt rfl) <| .p (xt rfl) <| .w (al 4 ze26 rfl) <| .w (al 5 ze26 rfl) <| .n (sa ag26 rfl) <| .n (sa ag26 rfl) <| .nil <| .seq <| .seq <| .region <| .p (fa 3 fl34_1 rfl) <| ?_
    refine .p (la ag26 rfl) <| .p (fa 3 fl34_1 rfl) <| .p (la ag26 rfl) <| ?_
    refine TR.st 32 (slK kApiDy [a0.Hi, a1.Hi]) [] (snd_buildSlice _ _ _ 3 _ _ [(0, (.agg (kApiDy.enc a0.Hi))), (1, (.agg (kApiDy.enc a1.Hi)))] (List.map kApiDy.enc [a0.Hi, a1.Hi]) rfl Tryz.underlying96 ze26 si26 rfl rfl rfl (by decide) (by decide) (by decide) rfl rfl (Kd.even _) rfl) rfl rfl rfl ?_
    refine .bind fun x8 h5 => .p (c0 (iv_ends_p h5) rfl) <| .p (mv rfl) <| .p (xt rfl) <| .p (xt rfl) <| .w (al 6 ze26 rfl) <| .w (al 7 ze26 rfl) <| .n (sa ag26 rfl) <| .n (sa ag26 rfl) <| .nil <| .seq <| .seq <| .seq <| .region <| ?_
    refine .p (la ag26 rfl) <| .p (la ag26 rfl) <| .bind fun x9 h6 => .p (c0 (dyad_Cmp_p h6) rfl) <| .p (ar rfl) <| .nil <| .seq <| ?_
    refine T.cond_p rfl iff_dec (fun h7 h8 => ?_) (fun h7 h8 => ?_)
    · refine .seq <| .region <| .p (mv rfl) <| .p (nc rfl) <| .p (fa 0 fl45_0 rfl) <| .bind fun x10 h9 => .w (cl (iv_trouble_note_k h9) [0] [] [true] rfl (.p rfl <| .i <| .nil) (.p rfl (.i <| .i <| .nil) .nil) fresh_nil (.cons (.v (.i <| .i <| .nil)) .nil) (.bool _) (.turned .nil) rfl) <| .nil <| .seq <| .seq <| .region <| .p (bd ze34 pl34 rfl) <| .n (sa ag34 rfl) <| .nil <| ?_
      refine .seq <| .ret <| .seq_ret <| fin_1 (.inr rfl) (.k rfl (.nil _)) Tryz.results36 (.a ag34 rfl) (AVle.refl _)
    · refine .skip <| .seq <| .seq <| .region <| .p (la ag26 rfl) <| .p (la ag26 rfl) <| .p (bd ze34 pl34 rfl) <| .n (sa ag34 rfl) <| .nil <| .seq <| .ret <| fin_1 (.inr rfl) (.k rfl (.nil _)) Tryz.results36 (.a ag34 rfl) (AVle.refl _)
theorem iv_Calc_Meet_k {a0 : ApiIv} {a1 : ApiIv} {a2 : Int} {a3 : Int} {r : ApiIv × Int} (h : iv_Calc_Meet a0 a1 a2 a3 = some r) : Cal Tryz.prog 36 [(.ptr 0 0), (.agg (kApiIv.enc a0)), (.agg (kApiIv.enc a1))] [(.live 45 [(.int .i64 a2), (.int .i64 a3)])] (.agg (kApiIv.enc (⟨⟨(((r.1).Lo).M), ((r.1).Lo).E⟩, ⟨(((r.1).Hi).M), ((r.1).Hi).E⟩⟩ : ApiIv))) [(.live 45 [(.int .i64 r.2), (.int .i64 a3)])] := ⟨⟨_, Tryz.func36, nm36, rfl⟩, iv_Calc_Meet_c a0 a1 a2 a3 _ h⟩

theorem astrolabelaw06_IvParts_c (a0 : ApiDy) (a1 : ApiDy) (a2 : ApiDy) (a3 : ApiDy) (a4 : Int) : ∀ r, astrolabelaw06_IvParts a0 a1 a2 a3 a4 = some r → ACalls Tryz.prog 5 [(.agg (kApiDy.enc a0)), (.agg (kApiDy.enc a1)), (.agg (kApiDy.enc a2)), (.agg (kApiDy.enc a3)), (.int .i64 a4)] (lw []) (.bool r) (ld []) := by
  unfold astrolabelaw06_IvParts
  refine go 0 Tryz.func5 Tryz.ntmps5 rfl ?_
  intro E hE
  refine .seq <| .region <| .w (bx 0 rfl) <| .w (bx 1 rfl) <| .w (bx 2 rfl) <| .w (bx 3 rfl) <| .p (sg rfl) <| .nil <| .seq <| .seq <| .region <| .bind fun x68 h1 => .p (c0 (astrolabelaw06_examples_p h1) rfl) <| .p (sg rfl) <| ?_
  refine .nil <| .seq <| .seq <| .seq <| .region <| .p (mv rfl) <| .p (un rfl) <| .nil <| .seq <| ?_
  refine T.cond_p rfl iff_nb (fun h2 h3 => ?_) (fun h2 h3 => ?_)
  · refine .seq <| .region <| .p (sg rfl) <| .nil <| .seq <| .ret <| .seq_ret <| fin_1 (.inr rfl) (.nil _) Tryz.results5 (.t rfl) (AVle.refl _)
  · refine .skip <| .seq <| .seq <| .region <| .p (mv rfl) <| .bind fun x69 h4 => .p (c0 (astrolabelaw06_prec_p h4) rfl) <| .bind fun x70 h5 => ?_
    rcases x70 with x71 | x72
    · dsimp only
      refine .w (cl (iv_New_k_0 h5) [] [4] [true] rfl (.i <| .nil) .nil (fresh_cons rfl fresh_nil) (.cons .dead .nil) (ren_tupL (.cons .nilptr <| .i <| .nil)) (.turned .nil) rfl) <| .p (mv rfl) <| .p (xt rfl) <| .p (xt rfl) <| .p (sg rfl) <| .p (sg rfl) <| .nil <| .seq <| .seq <| .seq <| .region <| .p (mv rfl) <| ?_
      refine TR.st 33 (.bool true) [] (snd_ptr_nil _ _ _ _ _ _ _ true true rfl Tryz.underlying28 rfl rfl rfl (.inr ⟨rfl, rfl⟩) rfl (.inl ⟨rfl, rfl⟩)) rfl rfl rfl ?_
      refine .p (mv rfl) <| .k rfl <| .k rfl <| .p (pt rfl) <| .nil <| .seq <| .cond_t rfl <| .seq <| .region <| .p (sg rfl) <| .nil <| .seq <| .ret <| .seq_ret <| fin_1 (.inr rfl) (.nil _) Tryz.results5 (.t rfl) (AVle.refl _)
    · dsimp only
      refine .w (cl (iv_New_k_1 h5) [] [4] [true] rfl (.i <| .nil) .nil (fresh_cons rfl fresh_nil) (.cons (.v (.i <| .i <| .nil)) .nil) (ren_tupL (.p rfl <| .i <| .nil)) (.turned .nil) rfl) <| .p (mv rfl) <| .p (xt rfl) <| .p (xt rfl) <| .p (sg rfl) <| .p (sg rfl) <| .nil <| .seq <| .seq <| .seq <| .region <| .p (mv rfl) <| ?_
      refine TR.st 33 (.bool false) [] (snd_ptr_nil _ _ _ _ _ _ _ false false rfl Tryz.underlying28 rfl rfl rfl (.inl ⟨⟨_, _, rfl⟩, rfl⟩) rfl (.inl ⟨rfl, rfl⟩)) rfl rfl rfl ?_
      refine .p (mv rfl) <| .p (mv rfl) <| .p (ar rfl) <| .p (pf rfl) <| .nil <| .seq <| ?_
      refine T.cond_p rfl iff_ne (fun h6 h7 => ?_) (fun h6 h7 => ?_)
      · refine .seq <| .region <| .p (sg rfl) <| .nil <| .seq <| .ret <| .seq_ret <| fin_1 (.inr rfl) (.nil _) Tryz.results5 (.t rfl) (AVle.refl _)
      · refine .skip <| .seq <| .seq <| .region <| .p (la ag26 rfl) <| .p (la ag26 rfl) <| .bind fun x73 h8 => .p (c0 (astrolabelaw06_span_p h8) rfl) <| .w (al 5 ze34 rfl) <| .n (sa ag34 rfl) <| .nil <| .seq <| .seq <| .region <| ?_
        refine .p (la ag26 rfl) <| .p (la ag26 rfl) <| .bind fun x74 h9 => .p (c0 (astrolabelaw06_span_p h9) rfl) <| .w (al 6 ze34 rfl) <| .n (sa ag34 rfl) <| .nil <| .seq <| .seq <| .region <| .p (mv rfl) <| .p (la ag34 rfl) <| .p (la ag34 rfl) <| ?_
        refine TR.st 47 (slK kApiIv [(⟨⟨(((x73).Lo).M), ((x73).Lo).E⟩, ⟨(((x73).Hi).M), ((x73).Hi).E⟩⟩ : ApiIv), (⟨⟨(((x74).Lo).M), ((x74).Lo).E⟩, ⟨(((x74).Hi).M), ((x74).Hi).E⟩⟩ : ApiIv)]) [] (snd_buildSlice _ _ _ 6 _ _ [(0, (.agg (kApiIv.enc (⟨⟨(((x73).Lo).M), ((x73).Lo).E⟩, ⟨(((x73).Hi).M), ((x73).Hi).E⟩⟩ : ApiIv)))), (1, (.agg (kApiIv.enc (⟨⟨(((x74).Lo).M), ((x74).Lo).E⟩, ⟨(((x74).Hi).M), ((x74).Hi).E⟩⟩ : ApiIv))))] (List.map kApiIv.enc [(⟨⟨(((x73).Lo).M), ((x73).Lo).E⟩, ⟨(((x73).Hi).M), ((x73).Hi).E⟩⟩ : ApiIv), (⟨⟨(((x74).Lo).M), ((x74).Lo).E⟩, ⟨(((x74).Hi).M), ((x74).Hi).E⟩⟩ : ApiIv)]) rfl Tryz.underlying104 ze34 si34 rfl rfl rfl (by decide) (by decide) (by decide) rfl rfl (Kd.even _) rfl) rfl rfl rfl ?_
        refine .bind fun x75 h10 => .w (cl (iv_Calc_Hull_k h10) [4] [] [true] rfl (.p rfl <| .l <| .nil) (.p rfl (.i <| .i <| .nil) .nil) fresh_nil (.cons (.v (.i <| .i <| .nil)) .nil) (ren_agg (K := kApiIv) _) (.turned .nil) rfl) <| .w (al 7 ze34 rfl) <| .n (sa ag34 rfl) <| .nil <| .seq <| .seq <| ?_
        refine T.cut (X := Bool × Int) (fun x => astrolabelaw06_IvParts_j1 x73 x75 x74 x72 x68 x.1 x.2) (fun x => (mkS [(11, some (.bool x68)), (12, some (.ptr 4 0)), (14, some (.ptr 5 0)), (15, some (.ptr 6 0)), (16, some (.ptr 7 0)), (17, some (.bool x.1))] [(4, (.live 45 [(.int .i64 x.2), (.int .i64 x72.2.2)])), (5, (.live 34 [(.bool ((((x73).Lo).M).Neg)), (slK (kInt .u32) ((((x73).Lo).M).Mag)), (.int .i64 (((x73).Lo).E)), (.bool ((((x73).Hi).M).Neg)), (slK (kInt .u32) ((((x73).Hi).M).Mag)), (.int .i64 (((x73).Hi).E))])), (6, (.live 34 [(.bool ((((x74).Lo).M).Neg)), (slK (kInt .u32) ((((x74).Lo).M).Mag)), (.int .i64 (((x74).Lo).E)), (.bool ((((x74).Hi).M).Neg)), (slK (kInt .u32) ((((x74).Hi).M).Mag)), (.int .i64 (((x74).Hi).E))])), (7, (.live 34 [(.bool ((((x75.1).Lo).M).Neg)), (slK (kInt .u32) ((((x75.1).Lo).M).Mag)), (.int .i64 (((x75.1).Lo).E)), (.bool ((((x75.1).Hi).M).Neg)), (slK (kInt .u32) ((((x75.1).Hi).M).Mag)), (.int .i64 (((x75.1).Hi).E))]))])) ?_ ?_
        · rintro ⟨y88, y89⟩
          dsimp only [astrolabelaw06_IvParts_j1]
          refine .seq <| .seq <| ?_
          refine T.cut (X := Bool × Int) (fun x => astrolabelaw06_IvParts_j2 x72 x73 x74 x68 y88 x.1 x.2) (fun x => (mkS [(11, some (.bool x68)), (12, some (.ptr 4 0)), (14, some (.ptr 5 0)), (15, some (.ptr 6 0)), (17, some (.bool y88)), (18, some (.bool x.1))] [(4, (.live 45 [(.int .i64 x.2), (.int .i64 x72.2.2)])), (5, (.live 34 [(.bool ((((x73).Lo).M).Neg)), (slK (kInt .u32) ((((x73).Lo).M).Mag)), (.int .i64 (((x73).Lo).E)), (.bool ((((x73).Hi).M).Neg)), (slK (kInt .u32) ((((x73).Hi).M).Mag)), (.int .i64 (((x73).Hi).E))])), (6, (.live 34 [(.bool ((((x74).Lo).M).Neg)), (slK (kInt .u32) ((((x74).Lo).M).Mag)), (.int .i64 (((x74).Lo).E)), (.bool ((((x74).Hi).M).Neg)), (slK (kInt .u32) ((((x74).Hi).M).Mag)), (.int .i64 (((x74).Hi).E))]))])) ?_ ?_
          · rintro ⟨y96, y97⟩
            dsimp only [astrolabelaw06_IvParts_j2]
            refine .seq <| .seq <| .region <| .p (mv rfl) <| .p (nc rfl) <| .p (fa 0 fl45_0 rfl) <| .bind fun x98 h35 => .p (cl (iv_trouble_Err_k h35) [4] [] [false] rfl (.p rfl <| .nil) (.p rfl (.i <| .i <| .nil) .nil) fresh_nil (.cons (.v (.i <| .i <| .nil)) .nil) (.int _ _) (.kept rfl .nil) rfl) <| .p (ar rfl) <| .p (sg rfl) <| .nil <| .seq <| .seq <| .region <| ?_
            refine .p (mv rfl) <| .p (la ag34 rfl) <| .p (la ag34 rfl) <| .bind fun x99 h36 => .w (cl (iv_Calc_Meet_k h36) [4] [] [true] rfl (.p rfl <| .a kApiIv <| .a kApiIv <| .nil) (.p rfl (.i <| .i <| .nil) .nil) fresh_nil (.cons (.v (.i <| .i <| .nil)) .nil) (ren_agg (K := kApiIv) _) (.turned .nil) rfl) <| .w (al 7 ze34 rfl) <| .n (sa ag34 rfl) <| .nil <| .seq <| .seq <| ?_
            refine T.cut (X := Bool) (fun x => astrolabelaw06_IvParts_j3 x73 x74 x68 y88 y96 x98 x99 x72 x) (fun x => (mkS [(11, some (.bool x68)), (12, some (.ptr 4 0)), (14, some (.ptr 5 0)), (15, some (.ptr 6 0)), (17, some (.bool y88)), (18, some (.bool y96)), (19, some (.bool (x98 == 0))), (21, some (.bool x))] [(4, (.live 45 [(.int .i64 x99.2), (.int .i64 x72.2.2)])), (5, (.live 34 [(.bool ((((x73).Lo).M).Neg)), (slK (kInt .u32) ((((x73).Lo).M).Mag)), (.int .i64 (((x73).Lo).E)), (.bool ((((x73).Hi).M).Neg)), (slK (kInt .u32) ((((x73).Hi).M).Mag)), (.int .i64 (((x73).Hi).E))])), (6, (.live 34 [(.bool ((((x74).Lo).M).Neg)), (slK (kInt .u32) ((((x74).Lo).M).Mag)), (.int .i64 (((x74).Lo).E)), (.bool ((((x74).Hi).M).Neg)), (slK (kInt .u32) ((((x74).Hi).M).Mag)), (.int .i64 (((x74).Hi).E))]))])) ?_ ?_
            · rintro y102
              dsimp only [astrolabelaw06_IvParts_j3]
              refine .seq <| .seq <| ?_
              refine T.cut (X := Bool) (fun x => astrolabelaw06_IvParts_j4 x68 y88 y96 x98 x99 x72 y102 x) (fun x => (mkS [(11, some (.bool x68)), (12, some (.ptr 4 0)), (17, some (.bool y88)), (18, some (.bool y96)), (19, some (.bool (x98 == 0))), (21, some (.bool y102)), (22, some (.bool x))] [(4, (.live 45 [(.int .i64 x99.2), (.int .i64 x72.2.2)]))])) ?_ ?_
              · rintro y105
                dsimp only [astrolabelaw06_IvParts_j4]
                refine .seq <| .seq <| ?_
                refine T.cut (X := Bool) (fun x => astrolabelaw06_IvParts_j5 x) (fun x => (mkS [(10, some (.bool x))] [])) ?_ ?_
                · rintro y109
                  dsimp only [astrolabelaw06_IvParts_j5]
                  refine .seq <| .ret <| fin_1 (.inr rfl) (.nil _) Tryz.results5 (.t rfl) (AVle.refl _)
                · intro h56
                  refine .region <| .p (mv rfl) <| .p (mv rfl) <| ?_
                  refine TR.gd 142 _ rfl iff_b (fun h57 => ?_) (fun h57 => ?_)
                  · refine .p (mv rfl) <| .p (pt rfl) <| .p (mv rfl) <| ?_
                    refine TR.gd 145 _ rfl iff_b (fun h58 => ?_) (fun h58 => ?_)
                    · refine .p (mv rfl) <| .p (pt rfl) <| .p (mv rfl) <| ?_
                      refine TR.gd 148 _ rfl iff_b (fun h59 => ?_) (fun h59 => ?_)
                      · refine .p (mv rfl) <| .p (pt rfl) <| .p (mv rfl) <| ?_
                        refine TR.gd 151 _ rfl iff_eq (fun h60 => ?_) (fun h60 => ?_)
                        · refine .p (mv rfl) <| .p (mv rfl) <| ?_
                          refine TR.gd 153 _ rfl iff_b (fun h61 => ?_) (fun h61 => ?_)
                          · refine .p (mv rfl) <| .p (nc rfl) <| .p (fa 0 fl45_0 rfl) <| .bind fun x110 h62 => .p (cl (iv_trouble_Err_k h62) [4] [] [false] rfl (.p rfl <| .nil) (.p rfl (.i <| .i <| .nil) .nil) fresh_nil (.cons (.v (.i <| .i <| .nil)) .nil) (.int _ _) (.kept rfl .nil) rfl) <| .p (ar rfl) <| .p (pt rfl) <| .p (mv rfl) <| ?_
                            refine TR.gd 160 _ rfl iff_eq (fun h63 => ?_) (fun h63 => ?_)
                            · refine .k rfl <| .k rfl <| .k rfl <| .k rfl <| .k rfl <| .k rfl <| .k rfl <| .k rfl <| .k rfl <| .k rfl <| .k rfl <| .k rfl <| .p (pt rfl) <| .p (pt rfl) <| ?_
                              refine .p (sg rfl) <| .nil <| .weak (h56 true) (jn (m := 0) [] hE (.b rfl <| .nil) .nil rfl)
                            · refine .p (mv rfl) <| .p (un rfl) <| .p (mv rfl) <| ?_
                              refine TR.gd 163 _ rfl iff_nb (fun h64 => ?_) (fun h64 => ?_)
                              · refine .p (mv rfl) <| .p (nc rfl) <| .p (fa 0 fl45_0 rfl) <| .bind fun x111 h65 => .p (cl (iv_trouble_Err_k h65) [4] [] [false] rfl (.p rfl <| .nil) (.p rfl (.i <| .i <| .nil) .nil) fresh_nil (.cons (.v (.i <| .i <| .nil)) .nil) (.int _ _) (.kept rfl .nil) rfl) <| .p (ar rfl) <| .p (pt rfl) <| .p (mv rfl) <| ?_
                                refine TR.gd 170 _ rfl iff_eq (fun h66 => ?_) (fun h66 => ?_)
                                · refine .p (mv rfl) <| .p (pt rfl) <| .p (pf rfl) <| .p (pt rfl) <| .p (sg rfl) <| .nil <| .weak (h56 y102) (jn (m := 0) [] hE (.b rfl <| .nil) .nil rfl)
                                · refine .k rfl <| .p (pf rfl) <| .p (pf rfl) <| .p (pt rfl) <| .p (sg rfl) <| .nil <| .weak (h56 false) (jn (m := 0) [] hE (.b rfl <| .nil) .nil rfl)
                              · refine .k rfl <| .k rfl <| .k rfl <| .k rfl <| .k rfl <| .p (pf rfl) <| .p (mv rfl) <| .k rfl <| .p (pf rfl) <| .p (pf rfl) <| .p (pt rfl) <| .p (sg rfl) <| .nil <| .weak (h56 false) (jn (m := 0) [] hE (.b rfl <| .nil) .nil rfl)
                          · refine .k rfl <| .k rfl <| .k rfl <| .k rfl <| .k rfl <| .p (pf rfl) <| .p (mv rfl) <| .p (mv rfl) <| .p (un rfl) <| .p (mv rfl) <| ?_
                            refine TR.gd 163 _ rfl iff_nb (fun h67 => ?_) (fun h67 => ?_)
                            · refine .p (mv rfl) <| .p (nc rfl) <| .p (fa 0 fl45_0 rfl) <| .bind fun x112 h68 => .p (cl (iv_trouble_Err_k h68) [4] [] [false] rfl (.p rfl <| .nil) (.p rfl (.i <| .i <| .nil) .nil) fresh_nil (.cons (.v (.i <| .i <| .nil)) .nil) (.int _ _) (.kept rfl .nil) rfl) <| .p (ar rfl) <| .p (pt rfl) <| .p (mv rfl) <| ?_
                              refine TR.gd 170 _ rfl iff_eq (fun h69 => ?_) (fun h69 => ?_)
                              · refine .p (mv rfl) <| .p (pt rfl) <| .p (pf rfl) <| .p (pt rfl) <| .p (sg rfl) <| .nil <| .weak (h56 y102) (jn (m := 0) [] hE (.b rfl <| .nil) .nil rfl)
                              · refine .k rfl <| .p (pf rfl) <| .p (pf rfl) <| .p (pt rfl) <| .p (sg rfl) <| .nil <| .weak (h56 false) (jn (m := 0) [] hE (.b rfl <| .nil) .nil rfl)
                            · refine .k rfl <| .k rfl <| .k rfl <| .k rfl <| .k rfl <| .p (pf rfl) <| .p (mv rfl) <| .k rfl <| .p (pf rfl) <| .p (pf rfl) <| .p (pt rfl) <| .p (sg rfl) <| .nil <| .weak (h56 false) (jn (m := 0) [] hE (.b rfl <| .nil) .nil rfl)
                        · refine .k rfl <| .k rfl <| .k rfl <| .k rfl <| .k rfl <| .k rfl <| .k rfl <| .k rfl <| .k rfl <| .k rfl <| .k rfl <| .k rfl <| .k rfl <| .k rfl <| ?_
                          refine .k rfl <| .k rfl <| .k rfl <| .k rfl <| .k rfl <| .k rfl <| .k rfl <| .k rfl <| .p (pf rfl) <| .p (sg rfl) <| .nil <| .weak (h56 false) (jn (m := 0) [] hE (.b rfl <| .nil) .nil rfl)
                      · refine .k rfl <| .p (pf rfl) <| .p (mv rfl) <| .k rfl <| .k rfl <| .k rfl <| .k rfl <| .k rfl <| .k rfl <| .k rfl <| .k rfl <| .k rfl <| .k rfl <| .k rfl <| ?_
                        refine .k rfl <| .k rfl <| .k rfl <| .k rfl <| .k rfl <| .k rfl <| .k rfl <| .k rfl <| .k rfl <| .k rfl <| .k rfl <| .p (pf rfl) <| .p (sg rfl) <| .nil <| .weak (h56 false) (jn (m := 0) [] hE (.b rfl <| .nil) .nil rfl)
                    · refine .k rfl <| .p (pf rfl) <| .p (mv rfl) <| .k rfl <| .p (pf rfl) <| .p (mv rfl) <| .k rfl <| .k rfl <| .k rfl <| .k rfl <| .k rfl <| .k rfl <| .k rfl <| .k rfl <| ?_
                      refine .k rfl <| .k rfl <| .k rfl <| .k rfl <| .k rfl <| .k rfl <| .k rfl <| .k rfl <| .k rfl <| .k rfl <| .k rfl <| .k rfl <| .k rfl <| .k rfl <| ?_
                      refine .p (pf rfl) <| .p (sg rfl) <| .nil <| .weak (h56 false) (jn (m := 0) [] hE (.b rfl <| .nil) .nil rfl)
                  · refine .k rfl <| .p (pf rfl) <| .p (mv rfl) <| .k rfl <| .p (pf rfl) <| .p (mv rfl) <| .k rfl <| .p (pf rfl) <| .p (mv rfl) <| .k rfl <| .k rfl <| .k rfl <| .k rfl <| .k rfl <| ?_
                    refine .k rfl <| .k rfl <| .k rfl <| .k rfl <| .k rfl <| .k rfl <| .k rfl <| .k rfl <| .k rfl <| .k rfl <| .k rfl <| .k rfl <| .k rfl <| .k rfl <| ?_
                    refine .k rfl <| .k rfl <| .k rfl <| .p (pf rfl) <| .p (sg rfl) <| .nil <| .weak (h56 false) (jn (m := 0) [] hE (.b rfl <| .nil) .nil rfl)
              · intro h70
                refine .region <| .p (fa 3 fl34_1 rfl) <| .p (la ag26 rfl) <| .p (fa 0 fl34_0 rfl) <| .p (la ag26 rfl) <| .bind fun x113 h71 => .p (c0 (dyad_Cmp_p h71) rfl) <| .p (ar rfl) <| .p (mv rfl) <| ?_
                refine TR.gd 133 _ rfl iff_dec (fun h72 => ?_) (fun h72 => ?_)
                · refine .k rfl <| .k rfl <| .k rfl <| .k rfl <| .k rfl <| .k rfl <| .p (pt rfl) <| .p (sg rfl) <| .nil <| .weak (h70 true) (jn (m := 0) [(4, 4)] hE (.b rfl <| .p rfl rfl <| .b rfl <| .b rfl <| .b rfl <| .b rfl <| .b rfl <| .nil) (.v rfl (.i <| .i <| .nil) <| .nil) rfl)
                · refine .p (fa 3 fl34_1 rfl) <| .p (la ag26 rfl) <| .p (fa 0 fl34_0 rfl) <| .p (la ag26 rfl) <| .bind fun x114 h73 => .p (c0 (dyad_Cmp_p h73) rfl) <| .p (ar rfl) <| .p (pf rfl) <| .p (sg rfl) <| .nil <| .weak (h70 (decide (x114 < 0))) (jn (m := 0) [(4, 4)] hE (.b rfl <| .p rfl rfl <| .b rfl <| .b rfl <| .b rfl <| .b rfl <| .b rfl <| .nil) (.v rfl (.i <| .i <| .nil) <| .nil) rfl)
            · intro h74
              refine .region <| .p (la ag34 rfl) <| .p (la ag34 rfl) <| .bind fun x115 h75 => .p (c0 (iv_In_p h75) rfl) <| .p (mv rfl) <| ?_
              refine TR.gd 122 _ rfl iff_b (fun h76 => ?_) (fun h76 => ?_)
              · refine .p (la ag34 rfl) <| .p (la ag34 rfl) <| .bind fun x116 h77 => .p (c0 (iv_In_p h77) rfl) <| .p (pt rfl) <| .p (sg rfl) <| .nil <| .weak (h74 x116) (jn (m := 0) [(4, 4), (5, 5), (6, 6)] hE (.b rfl <| .p rfl rfl <| .p rfl rfl <| .p rfl rfl <| .b rfl <| .b rfl <| .b rfl <| .b rfl <| .nil) (.v rfl (.i <| .i <| .nil) <| .v rfl (.b <| .l <| .i <| .b <| .l <| .i <| .nil) <| .v rfl (.b <| .l <| .i <| .b <| .l <| .i <| .nil) <| .nil) rfl)
              · refine .k rfl <| .k rfl <| .k rfl <| .p (pf rfl) <| .p (sg rfl) <| .nil <| .weak (h74 false) (jn (m := 0) [(4, 4), (5, 5), (6, 6)] hE (.b rfl <| .p rfl rfl <| .p rfl rfl <| .p rfl rfl <| .b rfl <| .b rfl <| .b rfl <| .b rfl <| .nil) (.v rfl (.i <| .i <| .nil) <| .v rfl (.b <| .l <| .i <| .b <| .l <| .i <| .nil) <| .v rfl (.b <| .l <| .i <| .b <| .l <| .i <| .nil) <| .nil) rfl)
          · intro h78
            refine .draw mixed <| .p (la ag34 rfl) <| .p (la ag34 rfl) <| .bind fun x117 h79 => .p (c0 (iv_In_p h79) rfl) <| .p (mv rfl) <| ?_
            refine TD.gd 90 _ rfl iff_b (fun h80 => ?_) (fun h80 => ?_)
            · refine .p (la ag34 rfl) <| .p (la ag34 rfl) <| .bind fun x118 h81 => .p (c0 (iv_In_p h81) rfl) <| .p (pt rfl) <| .p (mv rfl) <| ?_
              refine TD.gd 95 _ rfl iff_b (fun h82 => ?_) (fun h82 => ?_)
              · refine .p (la ag34 rfl) <| .p (mv rfl) <| .p (la ag34 rfl) <| .bind fun x119 h83 => .w (cl (iv_Calc_Out_k h83) [4] [] [true] rfl (.p rfl <| .a kApiIv <| .nil) (.p rfl (.i <| .i <| .nil) .nil) fresh_nil (.cons (.v (.i <| .i <| .nil)) .nil) (ren_agg (K := kApiIv) _) (.turned .nil) rfl) <| .bind fun x120 h84 => .p (c0 (iv_In_p h84) rfl) <| .p (pt rfl) <| .p (mv rfl) <| ?_
                refine TD.gd 102 _ rfl iff_b (fun h85 => ?_) (fun h85 => ?_)
                · refine .p (la ag34 rfl) <| .p (mv rfl) <| .p (la ag34 rfl) <| .p (bd ze26 pl26 rfl) <| .bind fun x121 h86 => .w (cl (iv_Calc_Wide_k h86) [4] [] [true] rfl (.p rfl <| .a kApiIv <| .a kApiDy <| .nil) (.p rfl (.i <| .i <| .nil) .nil) fresh_nil (.cons (.v (.i <| .i <| .nil)) .nil) (ren_agg (K := kApiIv) _) (.turned .nil) rfl) <| .bind fun x122 h87 => .p (c0 (iv_In_p h87) rfl) <| .p (pt rfl) <| .p (sg rfl) <| .nil (by kernel_rfl) <| .weak (h78 (x122, x121.2)) (jn (m := 0) [(4, 4), (5, 5), (6, 6)] hE (.b rfl <| .p rfl rfl <| .p rfl rfl <| .p rfl rfl <| .b rfl <| .b rfl <| .nil) (.v rfl (.i <| .i <| .nil) <| .v rfl (.b <| .l <| .i <| .b <| .l <| .i <| .nil) <| .v rfl (.b <| .l <| .i <| .b <| .l <| .i <| .nil) <| .nil) rfl)
                · refine .k rfl <| .k rfl <| .k rfl <| .k rfl <| .k rfl <| .k rfl <| .p (pf rfl) <| .p (sg rfl) <| .nil (by kernel_rfl) <| .weak (h78 (false, x119.2)) (jn (m := 0) [(4, 4), (5, 5), (6, 6)] hE (.b rfl <| .p rfl rfl <| .p rfl rfl <| .p rfl rfl <| .b rfl <| .b rfl <| .nil) (.v rfl (.i <| .i <| .nil) <| .v rfl (.b <| .l <| .i <| .b <| .l <| .i <| .nil) <| .v rfl (.b <| .l <| .i <| .b <| .l <| .i <| .nil) <| .nil) rfl)
              · refine .k rfl <| .k rfl <| .k rfl <| .k rfl <| .k rfl <| .p (pf rfl) <| .p (mv rfl) <| .k rfl <| .k rfl <| .k rfl <| .k rfl <| .k rfl <| .k rfl <| .p (pf rfl) <| ?_
                refine .p (sg rfl) <| .nil (by kernel_rfl) <| .weak (h78 (false, y89)) (jn (m := 0) [(4, 4), (5, 5), (6, 6)] hE (.b rfl <| .p rfl rfl <| .p rfl rfl <| .p rfl rfl <| .b rfl <| .b rfl <| .nil) (.v rfl (.i <| .i <| .nil) <| .v rfl (.b <| .l <| .i <| .b <| .l <| .i <| .nil) <| .v rfl (.b <| .l <| .i <| .b <| .l <| .i <| .nil) <| .nil) rfl)
            · refine .k rfl <| .k rfl <| .k rfl <| .p (pf rfl) <| .p (mv rfl) <| .k rfl <| .k rfl <| .k rfl <| .k rfl <| .k rfl <| .p (pf rfl) <| .p (mv rfl) <| .k rfl <| .k rfl <| ?_
              refine .k rfl <| .k rfl <| .k rfl <| .k rfl <| .p (pf rfl) <| .p (sg rfl) <| .nil (by kernel_rfl) <| .weak (h78 (false, y89)) (jn (m := 0) [(4, 4), (5, 5), (6, 6)] hE (.b rfl <| .p rfl rfl <| .p rfl rfl <| .p rfl rfl <| .b rfl <| .b rfl <| .nil) (.v rfl (.i <| .i <| .nil) <| .v rfl (.b <| .l <| .i <| .b <| .l <| .i <| .nil) <| .v rfl (.b <| .l <| .i <| .b <| .l <| .i <| .nil) <| .nil) rfl)
        · intro h88
          refine .draw mixed <| .p (mv rfl) <| .p (la ag34 rfl) <| .p (la ag34 rfl) <| .bind fun x123 h89 => .w (cl (iv_Calc_Mul_k h89) [4] [] [true] rfl (.p rfl <| .a kApiIv <| .a kApiIv <| .nil) (.p rfl (.i <| .i <| .nil) .nil) fresh_nil (.cons (.v (.i <| .i <| .nil)) .nil) (ren_agg (K := kApiIv) _) (.turned .nil) rfl) <| .p (mv rfl) <| .p (la ag34 rfl) <| .p (la ag34 rfl) <| .bind fun x124 h90 => .w (cl (iv_Calc_Mul_k h90) [4] [] [true] rfl (.p rfl <| .a kApiIv <| .a kApiIv <| .nil) (.p rfl (.i <| .i <| .nil) .nil) fresh_nil (.cons (.v (.i <| .i <| .nil)) .nil) (ren_agg (K := kApiIv) _) (.turned .nil) rfl) <| .bind fun x125 h91 => .p (c0 (iv_In_p h91) rfl) <| .p (mv rfl) <| ?_
          refine TD.gd 58 _ rfl iff_b (fun h92 => ?_) (fun h92 => ?_)
          · refine .p (mv rfl) <| .p (la ag34 rfl) <| .p (la ag34 rfl) <| .bind fun x126 h93 => .w (cl (iv_Calc_Add_k h93) [4] [] [true] rfl (.p rfl <| .a kApiIv <| .a kApiIv <| .nil) (.p rfl (.i <| .i <| .nil) .nil) fresh_nil (.cons (.v (.i <| .i <| .nil)) .nil) (ren_agg (K := kApiIv) _) (.turned .nil) rfl) <| .p (mv rfl) <| .p (la ag34 rfl) <| .p (la ag34 rfl) <| .bind fun x127 h94 => .w (cl (iv_Calc_Add_k h94) [4] [] [true] rfl (.p rfl <| .a kApiIv <| .a kApiIv <| .nil) (.p rfl (.i <| .i <| .nil) .nil) fresh_nil (.cons (.v (.i <| .i <| .nil)) .nil) (ren_agg (K := kApiIv) _) (.turned .nil) rfl) <| .bind fun x128 h95 => .p (c0 (iv_In_p h95) rfl) <| .p (pt rfl) <| .p (mv rfl) <| ?_
            refine TD.gd 69 _ rfl iff_b (fun h96 => ?_) (fun h96 => ?_)
            · refine .p (mv rfl) <| .p (la ag34 rfl) <| .bind fun x129 h97 => .w (cl (iv_Calc_Neg_k h97) [4] [] [true] rfl (.p rfl <| .a kApiIv <| .nil) (.p rfl (.i <| .i <| .nil) .nil) fresh_nil (.cons (.v (.i <| .i <| .nil)) .nil) (ren_agg (K := kApiIv) _) (.turned .nil) rfl) <| .p (mv rfl) <| .p (la ag34 rfl) <| .bind fun x130 h98 => .w (cl (iv_Calc_Neg_k h98) [4] [] [true] rfl (.p rfl <| .a kApiIv <| .nil) (.p rfl (.i <| .i <| .nil) .nil) fresh_nil (.cons (.v (.i <| .i <| .nil)) .nil) (ren_agg (K := kApiIv) _) (.turned .nil) rfl) <| .bind fun x131 h99 => .p (c0 (iv_In_p h99) rfl) <| .p (pt rfl) <| .p (mv rfl) <| ?_
              refine TD.gd 78 _ rfl iff_b (fun h100 => ?_) (fun h100 => ?_)
              · refine .p (mv rfl) <| .p (la ag34 rfl) <| .bind fun x132 h101 => .w (cl (iv_Calc_Out_k h101) [4] [] [true] rfl (.p rfl <| .a kApiIv <| .nil) (.p rfl (.i <| .i <| .nil) .nil) fresh_nil (.cons (.v (.i <| .i <| .nil)) .nil) (ren_agg (K := kApiIv) _) (.turned .nil) rfl) <| .p (mv rfl) <| .p (la ag34 rfl) <| .bind fun x133 h102 => .w (cl (iv_Calc_Out_k h102) [4] [] [true] rfl (.p rfl <| .a kApiIv <| .nil) (.p rfl (.i <| .i <| .nil) .nil) fresh_nil (.cons (.v (.i <| .i <| .nil)) .nil) (ren_agg (K := kApiIv) _) (.turned .nil) rfl) <| .bind fun x134 h103 => .p (c0 (iv_In_p h103) rfl) <| .p (pt rfl) <| .p (sg rfl) <| .nil (by kernel_rfl) <| .weak (h88 (x134, x133.2)) (jn (m := 0) [(4, 4), (5, 5), (6, 6), (7, 7)] hE (.b rfl <| .p rfl rfl <| .p rfl rfl <| .p rfl rfl <| .p rfl rfl <| .b rfl <| .nil) (.v rfl (.i <| .i <| .nil) <| .v rfl (.b <| .l <| .i <| .b <| .l <| .i <| .nil) <| .v rfl (.b <| .l <| .i <| .b <| .l <| .i <| .nil) <| .v rfl (.b <| .l <| .i <| .b <| .l <| .i <| .nil) <| .nil) rfl)
              · refine .k rfl <| .k rfl <| .k rfl <| .k rfl <| .k rfl <| .k rfl <| .k rfl <| .p (pf rfl) <| .p (sg rfl) <| .nil (by kernel_rfl) <| .weak (h88 (false, x130.2)) (jn (m := 0) [(4, 4), (5, 5), (6, 6), (7, 7)] hE (.b rfl <| .p rfl rfl <| .p rfl rfl <| .p rfl rfl <| .p rfl rfl <| .b rfl <| .nil) (.v rfl (.i <| .i <| .nil) <| .v rfl (.b <| .l <| .i <| .b <| .l <| .i <| .nil) <| .v rfl (.b <| .l <| .i <| .b <| .l <| .i <| .nil) <| .v rfl (.b <| .l <| .i <| .b <| .l <| .i <| .nil) <| .nil) rfl)
            · refine .k rfl <| .k rfl <| .k rfl <| .k rfl <| .k rfl <| .k rfl <| .k rfl <| .p (pf rfl) <| .p (mv rfl) <| .k rfl <| .k rfl <| .k rfl <| .k rfl <| .k rfl <| ?_
              refine .k rfl <| .k rfl <| .p (pf rfl) <| .p (sg rfl) <| .nil (by kernel_rfl) <| .weak (h88 (false, x127.2)) (jn (m := 0) [(4, 4), (5, 5), (6, 6), (7, 7)] hE (.b rfl <| .p rfl rfl <| .p rfl rfl <| .p rfl rfl <| .p rfl rfl <| .b rfl <| .nil) (.v rfl (.i <| .i <| .nil) <| .v rfl (.b <| .l <| .i <| .b <| .l <| .i <| .nil) <| .v rfl (.b <| .l <| .i <| .b <| .l <| .i <| .nil) <| .v rfl (.b <| .l <| .i <| .b <| .l <| .i <| .nil) <| .nil) rfl)
          · refine .k rfl <| .k rfl <| .k rfl <| .k rfl <| .k rfl <| .k rfl <| .k rfl <| .k rfl <| .k rfl <| .p (pf rfl) <| .p (mv rfl) <| .k rfl <| .k rfl <| .k rfl <| ?_
            refine .k rfl <| .k rfl <| .k rfl <| .k rfl <| .p (pf rfl) <| .p (mv rfl) <| .k rfl <| .k rfl <| .k rfl <| .k rfl <| .k rfl <| .k rfl <| .k rfl <| .p (pf rfl) <| ?_
            refine .p (sg rfl) <| .nil (by kernel_rfl) <| .weak (h88 (false, x124.2)) (jn (m := 0) [(4, 4), (5, 5), (6, 6), (7, 7)] hE (.b rfl <| .p rfl rfl <| .p rfl rfl <| .p rfl rfl <| .p rfl rfl <| .b rfl <| .nil) (.v rfl (.i <| .i <| .nil) <| .v rfl (.b <| .l <| .i <| .b <| .l <| .i <| .nil) <| .v rfl (.b <| .l <| .i <| .b <| .l <| .i <| .nil) <| .v rfl (.b <| .l <| .i <| .b <| .l <| .i <| .nil) <| .nil) rfl)
theorem astrolabelaw06_IvParts_p {a0 : ApiDy} {a1 : ApiDy} {a2 : ApiDy} {a3 : ApiDy} {a4 : Int} {r : Bool} (h : astrolabelaw06_IvParts a0 a1 a2 a3 a4 = some r) : Pur Tryz.prog 5 [(.agg (kApiDy.enc a0)), (.agg (kApiDy.enc a1)), (.agg (kApiDy.enc a2)), (.agg (kApiDy.enc a3)), (.int .i64 a4)] (.bool r) := ⟨⟨_, Tryz.func5, nm5, rfl⟩, astrolabelaw06_IvParts_c a0 a1 a2 a3 a4 _ h, fun _ => (.a kApiDy <| .a kApiDy <| .a kApiDy <| .a kApiDy <| .i <| .nil), fun _ => (.bool _)⟩

end Go.Proofs.YtpmpcohbpankaaaGreat.Gen
