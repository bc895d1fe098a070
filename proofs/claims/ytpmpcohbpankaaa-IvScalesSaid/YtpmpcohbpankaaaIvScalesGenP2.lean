/- Printed by gen.py: a call does what the plain function says. -/
import Derived.Test.YtpmpcohbpankaaaIvScalesGenP1
namespace Go.Proofs.Ytpmpcohbpankaaa.Gen
open Go Go.Abs Go.Proofs

theorem astrolaberef05_Right_c (a0 : ApiDy) : ∀ r, astrolaberef05_Right a0 = some r → ACalls Try.prog 54 [(.agg (kApiDy.enc a0))] (lw []) (.bool r) (ld []) := by
  unfold astrolaberef05_Right
  refine go 0 Try.func54 Try.ntmps54 rfl ?_
  intro E hE
  refine .seq <| .region <| .w (bx 0 rfl) <| .p (sg rfl) <| .nil <| .seq <| .seq <| .region <| .p (fa 0 fl26_0 rfl) <| .p (la ag24 rfl) <| .bind fun x3 h1 => .p (c0 (astrolaberef04_Right_p h1) rfl) <| .p (sg rfl) <| .nil <| ?_
  refine .seq <| .seq <| .seq <| .region <| .p (mv rfl) <| .p (un rfl) <| .nil <| .seq <| ?_
  refine T.cond_p rfl iff_nb (fun h2 h3 => ?_) (fun h2 h3 => ?_)
  · refine .seq <| .region <| .p (sg rfl) <| .nil <| .seq <| .ret <| .seq_ret <| fin_1 (.inr rfl) (.nil _) Try.results54 (.t rfl) (AVle.refl _)
  · refine .skip <| .seq <| .seq <| .seq <| .region <| .p (fa 0 fl26_0 rfl) <| .p (fa 1 fl24_1 rfl) <| .p (ls sc22 rfl) <| .p (ln Try.underlying22 rfl) <| .p (ar rfl) <| .nil <| .seq <| ?_
    refine T.cond_p rfl iff_eq (fun h4 h5 => ?_) (fun h4 h5 => ?_)
    · refine .seq <| .region <| .p (fa 2 fl26_1 rfl) <| .p (ls sc3 rfl) <| .p (ar rfl) <| .p (sg rfl) <| .nil <| .seq <| .ret <| .seq_ret <| fin_1 (.inr rfl) (.nil _) Try.results54 (.t rfl) (AVle.refl _)
    · refine .skip <| .seq <| .seq <| ?_
      refine T.cut (X := Bool) (fun x => astrolaberef05_Right_j1 x) (fun x => (mkS [(2, some (.bool x))] [])) ?_ ?_
      · rintro y4
        dsimp only [astrolaberef05_Right_j1]
        refine .seq <| .ret <| fin_1 (.inr rfl) (.nil _) Try.results54 (.t rfl) (AVle.refl _)
      · intro h9
        refine .region <| .p (fa 0 fl26_0 rfl) <| .p (fa 1 fl24_1 rfl) <| .p (ls sc22 rfl) <| .guard fun h10 => ?_
        refine TR.st 20 (.iptr [(.int .u32 (a0.M.Mag.getD 0 (kInt .u32).z))]) [] (snd_indexK (kInt .u32) _ _ _ _ _ _ 0 rfl Try.underlying22 si55 rfl rfl rfl rfl h10) rfl rfl rfl ?_
        refine .p (lsi sc55 rfl) <| ?_
        refine TR.st 22 (.int .u32 ((a0.M.Mag.getD 0 (kInt .u32).z).tmod 2)) [] (snd_rem _ _ _ _ _ _ _ rfl rfl rfl rfl rfl (by decide)) rfl rfl rfl ?_
        refine .p (ar rfl) <| .p (mv rfl) <| ?_
        refine TR.gd 24 _ rfl iff_eq (fun h11 => ?_) (fun h11 => ?_)
        · refine .p (fa 2 fl26_1 rfl) <| .p (ls sc3 rfl) <| .p (ar rfl) <| .p (pt rfl) <| .p (mv rfl) <| ?_
          refine TR.gd 29 _ rfl iff_dec (fun h12 => ?_) (fun h12 => ?_)
          · refine .p (fa 2 fl26_1 rfl) <| .p (ls sc3 rfl) <| .p (ar rfl) <| .p (pt rfl) <| .p (sg rfl) <| .nil <| .weak (h9 (decide (a0.E ≤ 131072))) (jn (m := 0) [] hE (.b rfl <| .nil) .nil rfl)
          · refine .k rfl <| .k rfl <| .k rfl <| .p (pf rfl) <| .p (sg rfl) <| .nil <| .weak (h9 false) (jn (m := 0) [] hE (.b rfl <| .nil) .nil rfl)
        · refine .k rfl <| .k rfl <| .k rfl <| .p (pf rfl) <| .p (mv rfl) <| .k rfl <| .k rfl <| .k rfl <| .p (pf rfl) <| .p (sg rfl) <| .nil <| .weak (h9 false) (jn (m := 0) [] hE (.b rfl <| .nil) .nil rfl)
theorem astrolaberef05_Right_p {a0 : ApiDy} {r : Bool} (h : astrolaberef05_Right a0 = some r) : Pur Try.prog 54 [(.agg (kApiDy.enc a0))] (.bool r) := ⟨⟨_, Try.func54, nm54, rfl⟩, astrolaberef05_Right_c a0 _ h, fun _ => (.a kApiDy <| .nil), fun _ => (.bool _)⟩

theorem astrolaberef01_Cmp_c (a0 : List Int) (a1 : List Int) : ∀ r, astrolaberef01_Cmp a0 a1 = some r → ACalls Try.prog 79 [(slK (kInt .u32) a0), (slK (kInt .u32) a1)] (lw []) (.int .i64 r) (ld []) := by
  unfold astrolaberef01_Cmp
  refine go 0 Try.func79 Try.ntmps79 rfl ?_
  intro E hE
  refine .seq <| .region <| .p (sg rfl) <| .nil <| .seq <| .seq <| .seq <| .region <| .p (mv rfl) <| .p (ln Try.underlying22 rfl) <| .p (mv rfl) <| .p (ln Try.underlying22 rfl) <| ?_
  refine TR.st 10 (.int .i64 (mx (a0.length : Int) (a1.length : Int))) [] (snd_max _ _ _ _ _ _ rfl rfl rfl rfl rfl) rfl rfl rfl ?_
  refine .p (ar rfl) <| .p (sg rfl) <| .nil <| .seq <| ?_
  refine T.cut (X := Unit) (fun x => astrolaberef01_Cmp_j1) (fun x => (mkS [] [])) ?_ ?_
  · rintro _
    dsimp only [astrolaberef01_Cmp_j1]
    refine .seq <| .seq <| .region <| .p (sg rfl) <| .nil <| .seq <| .ret <| fin_1 (.inr rfl) (.nil _) Try.results79 (.t rfl) (AVle.refl _)
  · intro h55
    refine .block <| .loopW (X := Int) (fun n x => astrolaberef01_Cmp_l2 a0 a1 n x) (fun x => (mkS [(0, some (slK (kInt .u32) a0)), (1, some (slK (kInt .u32) a1)), (5, some (.int .i64 x))] [])) (IntKind.i64.wrap ((mx (a0.length : Int) (a1.length : Int)) - 1)) (jn (m := 0) [] hE (.l rfl <| .l rfl <| .i rfl <| .nil) .nil rfl) (fun _ => rfl) rfl <| ?_
    rintro n2 y96
    try dsimp only
    rw [astrolaberef01_Cmp_l2]
    refine .seq <| .seq <| .region <| .p (mv rfl) <| .p (ar rfl) <| .nil <| .seq <| ?_
    refine T.cond_p rfl iff_dec (fun h92 h93 => ?_) (fun h92 h93 => ?_)
    · refine .skip <| .seq <| .seq <| .block <| .seq <| .seq <| .region <| .p (mv rfl) <| .p (mv rfl) <| .bind fun x101 h102 => .p (c0 (astrolaberef01_at_p h102) rfl) <| .p (mv rfl) <| .p (mv rfl) <| .bind fun x102 h103 => ?_
      refine .p (c0 (astrolaberef01_at_p h103) rfl) <| .p (ar rfl) <| .nil <| .seq <| ?_
      refine T.cond_p rfl iff_dec (fun h104 h105 => ?_) (fun h104 h105 => ?_)
      · refine .seq <| .region <| .p (sg rfl) <| .nil <| .seq <| .ret <| .seq_ret <| .block_ret <| .seq_ret <| .loop_ret <| .block_ret <| .seq_ret <| fin_1 (.inr rfl) (.nil _) Try.results79 (.t rfl) (AVle.refl _)
      · refine .skip <| .seq <| .seq <| .region <| .p (mv rfl) <| .p (mv rfl) <| .bind fun x103 h106 => .p (c0 (astrolaberef01_at_p h106) rfl) <| .p (mv rfl) <| .p (mv rfl) <| .bind fun x104 h107 => .p (c0 (astrolaberef01_at_p h107) rfl) <| .p (ar rfl) <| .nil <| ?_
        refine .seq <| ?_
        refine T.cond_p rfl iff_dec (fun h108 h109 => ?_) (fun h108 h109 => ?_)
        · refine .seq <| .region <| .p (sg rfl) <| .nil <| .seq <| .ret <| .block_ret <| .seq_ret <| .loop_ret <| .block_ret <| .seq_ret <| fin_1 (.inr rfl) (.nil _) Try.results79 (.t rfl) (AVle.refl _)
        · refine .skip <| .block <| .seq <| .region <| .p (mv rfl) <| .p (ar rfl) <| .p (sg rfl) <| .nil <| .again (IntKind.i64.wrap (y96 - 1)) (jn (m := 0) [] hE (.l rfl <| .l rfl <| .i rfl <| .nil) .nil rfl) rfl
    · refine .exit <| .seq_exit <| .loop_exit <| .block_exit <| .weak (h55 ()) (jn (m := 0) [] hE .nil .nil rfl)
theorem astrolaberef01_Cmp_p {a0 : List Int} {a1 : List Int} {r : Int} (h : astrolaberef01_Cmp a0 a1 = some r) : Pur Try.prog 79 [(slK (kInt .u32) a0), (slK (kInt .u32) a1)] (.int .i64 r) := ⟨⟨_, Try.func79, nm79, rfl⟩, astrolaberef01_Cmp_c a0 a1 _ h, fun _ => (.l <| .l <| .nil), fun _ => (.int _ _)⟩

theorem astrolaberef04_Cmp_c (a0 : ApiInt) (a1 : ApiInt) : ∀ r, astrolaberef04_Cmp a0 a1 = some r → ACalls Try.prog 55 [(.agg (kApiInt.enc a0)), (.agg (kApiInt.enc a1))] (lw []) (.int .i64 r) (ld []) := by
  unfold astrolaberef04_Cmp
  refine go 0 Try.func55 Try.ntmps55 rfl ?_
  intro E hE
  refine .seq <| .region <| .w (bx 0 rfl) <| .w (bx 1 rfl) <| .p (sg rfl) <| .nil <| .seq <| .seq <| .region <| .p (fa 0 fl24_0 rfl) <| .p (ls sc4 rfl) <| .p (fa 1 fl24_1 rfl) <| .p (ls sc22 rfl) <| .bind fun x10 h1 => ?_
  refine .p (c0 (astrolaberef04_Make_p h1) rfl) <| .w (al 2 ze24 rfl) <| .n (sa ag24 rfl) <| .nil <| .seq <| .seq <| .region <| .p (fa 0 fl24_0 rfl) <| .p (ls sc4 rfl) <| .p (fa 1 fl24_1 rfl) <| .p (ls sc22 rfl) <| .bind fun x11 h2 => .p (c0 (astrolaberef04_Make_p h2) rfl) <| .w (al 3 ze24 rfl) <| ?_
  refine .n (sa ag24 rfl) <| .nil <| .seq <| .seq <| .block <| .seq <| ?_
  refine T.cut (X := Bool) (fun x => astrolaberef04_Cmp_j1 x10 x11 x) (fun x => (mkS [(5, some (.ptr 2 0)), (6, some (.ptr 3 0)), (17, some (.bool x))] [(2, (.live 24 [(.bool ((x10).Neg)), (slK (kInt .u32) ((x10).Mag))])), (3, (.live 24 [(.bool ((x11).Neg)), (slK (kInt .u32) ((x11).Mag))]))])) ?_ ?_
  · rintro y15
    dsimp only [astrolaberef04_Cmp_j1]
    refine .seq <| ?_
    refine T.cond_p rfl iff_b (fun h15 h16 => ?_) (fun h15 h16 => ?_)
    · refine .seq <| .region <| .p (sg rfl) <| .nil <| .seq <| .ret <| .block_ret <| .seq_ret <| fin_1 (.inr rfl) (.nil _) Try.results55 (.t rfl) (AVle.refl _)
    · refine .seq <| ?_
      refine T.cut (X := Bool) (fun x => astrolaberef04_Cmp_j2 x10 x11 x) (fun x => (mkS [(5, some (.ptr 2 0)), (6, some (.ptr 3 0)), (25, some (.bool x))] [(2, (.live 24 [(.bool ((x10).Neg)), (slK (kInt .u32) ((x10).Mag))])), (3, (.live 24 [(.bool ((x11).Neg)), (slK (kInt .u32) ((x11).Mag))]))])) ?_ ?_
      · rintro y16
        dsimp only [astrolaberef04_Cmp_j2]
        refine .seq <| ?_
        refine T.cond_p rfl iff_b (fun h18 h19 => ?_) (fun h18 h19 => ?_)
        · refine .seq <| .region <| .p (sg rfl) <| .nil <| .seq <| .ret <| .block_ret <| .seq_ret <| fin_1 (.inr rfl) (.nil _) Try.results55 (.t rfl) (AVle.refl _)
        · refine .seq <| .region <| .p (fa 0 fl24_0 rfl) <| .p (ls sc4 rfl) <| .p (sg rfl) <| .nil <| .seq <| ?_
          refine T.cond_p rfl iff_b (fun h20 h21 => ?_) (fun h20 h21 => ?_)
          · refine .seq <| .region <| .p (fa 1 fl24_1 rfl) <| .p (ls sc22 rfl) <| .p (fa 1 fl24_1 rfl) <| .p (ls sc22 rfl) <| .bind fun x17 h22 => .p (c0 (astrolaberef01_Cmp_p h22) rfl) <| .p (sg rfl) <| .nil <| .seq <| .ret <| .block_ret <| .seq_ret <| fin_1 (.inr rfl) (.nil _) Try.results55 (.t rfl) (AVle.refl _)
          · refine .skip <| .block <| .seq <| .seq <| .region <| .p (fa 1 fl24_1 rfl) <| .p (ls sc22 rfl) <| .p (fa 1 fl24_1 rfl) <| .p (ls sc22 rfl) <| .bind fun x18 h23 => .p (c0 (astrolaberef01_Cmp_p h23) rfl) <| .p (sg rfl) <| .nil <| .seq <| ?_
            refine .ret <| fin_1 (.inr rfl) (.nil _) Try.results55 (.t rfl) (AVle.refl _)
      · intro h24
        refine .region <| .p (fa 0 fl24_0 rfl) <| .p (ls sc4 rfl) <| .p (un rfl) <| .p (mv rfl) <| ?_
        refine TR.gd 29 _ rfl iff_nb (fun h25 => ?_) (fun h25 => ?_)
        · refine .p (fa 0 fl24_0 rfl) <| .p (ls sc4 rfl) <| .p (pt rfl) <| .p (sg rfl) <| .nil <| .weak (h24 (x11).Neg) (jn (m := 0) [(2, 2), (3, 3)] hE (.p rfl rfl <| .p rfl rfl <| .b rfl <| .nil) (.v rfl (.b <| .l <| .nil) <| .v rfl (.b <| .l <| .nil) <| .nil) rfl)
        · refine .k rfl <| .k rfl <| .p (pf rfl) <| .p (sg rfl) <| .nil <| .weak (h24 false) (jn (m := 0) [(2, 2), (3, 3)] hE (.p rfl rfl <| .p rfl rfl <| .b rfl <| .nil) (.v rfl (.b <| .l <| .nil) <| .v rfl (.b <| .l <| .nil) <| .nil) rfl)
  · intro h26
    refine .region <| .p (fa 0 fl24_0 rfl) <| .p (ls sc4 rfl) <| .p (mv rfl) <| ?_
    refine TR.gd 20 _ rfl iff_b (fun h27 => ?_) (fun h27 => ?_)
    · refine .p (fa 0 fl24_0 rfl) <| .p (ls sc4 rfl) <| .p (un rfl) <| .p (pt rfl) <| .p (sg rfl) <| .nil <| .weak (h26 (!((x11).Neg))) (jn (m := 0) [(2, 2), (3, 3)] hE (.p rfl rfl <| .p rfl rfl <| .b rfl <| .nil) (.v rfl (.b <| .l <| .nil) <| .v rfl (.b <| .l <| .nil) <| .nil) rfl)
    · refine .k rfl <| .k rfl <| .k rfl <| .p (pf rfl) <| .p (sg rfl) <| .nil <| .weak (h26 false) (jn (m := 0) [(2, 2), (3, 3)] hE (.p rfl rfl <| .p rfl rfl <| .b rfl <| .nil) (.v rfl (.b <| .l <| .nil) <| .v rfl (.b <| .l <| .nil) <| .nil) rfl)
theorem astrolaberef04_Cmp_p {a0 : ApiInt} {a1 : ApiInt} {r : Int} (h : astrolaberef04_Cmp a0 a1 = some r) : Pur Try.prog 55 [(.agg (kApiInt.enc a0)), (.agg (kApiInt.enc a1))] (.int .i64 r) := ⟨⟨_, Try.func55, nm55, rfl⟩, astrolaberef04_Cmp_c a0 a1 _ h, fun _ => (.a kApiInt <| .a kApiInt <| .nil), fun _ => (.int _ _)⟩

theorem astrolaberef01_Shl_c (a0 : List Int) (a1 : Int) : ∀ r, astrolaberef01_Shl a0 a1 = some r → ACalls Try.prog 98 [(slK (kInt .u32) a0), (.int .i64 a1)] (lw []) (.tup [(slK (kInt .u32) r.1), (.bool r.2)]) (ld []) := by
  unfold astrolaberef01_Shl
  refine go 0 Try.func98 Try.ntmps98 rfl ?_
  intro E hE
  refine .seq <| .region <| .p (sg rfl) <| .p (sg rfl) <| .nil <| .seq <| .seq <| .seq <| ?_
  refine T.cut (X := Bool) (fun x => astrolaberef01_Shl_j1 a1 a0 x) (fun x => (mkS [(0, some (slK (kInt .u32) a0)), (1, some (.int .i64 a1)), (15, some (.bool x))] [])) ?_ ?_
  · rintro y17
    dsimp only [astrolaberef01_Shl_j1]
    refine .seq <| ?_
    refine T.cond_p rfl iff_b (fun h2 h3 => ?_) (fun h2 h3 => ?_)
    · refine .seq <| .region <| .p (sg rfl) <| .p (sg rfl) <| .nil <| .seq <| .ret <| .seq_ret <| fin_2 (.inr rfl) (.nil _) Try.results98 (.t rfl) (.t rfl) (.tup (.cons AVle.nil (.cons (AVle.refl _) .nil)))
    · refine .skip <| .seq <| .seq <| .region <| .p (mv rfl) <| ?_
      refine TR.st 17 (.int .i64 (IntKind.i64.wrap (a1.tdiv 32))) [] (snd_quo _ _ _ _ _ _ _ rfl rfl rfl rfl rfl (by decide)) rfl rfl rfl ?_
      refine .guard fun h4 => ?_
      refine TR.st 18 (.row 0 (kInt .u32).sz 0 (((List.replicate ((IntKind.i64.wrap (a1.tdiv 32)).toNat) (kInt .u32).z)).length)) [(0, (rwK (kInt .u32) 55 (List.replicate ((IntKind.i64.wrap (a1.tdiv 32)).toNat) (kInt .u32).z)))] (snd_makeK (kInt .u32) _ _ _ _ _ 0 _ _ _ rfl Try.underlying22 ze55 sb55 (by decide) rfl rfl rfl rfl rfl h4) rfl rfl rfl ?_
      refine .p (sg rfl) <| .nil <| .seq <| .seq <| .region <| .p (sg rfl) <| .nil <| .seq <| .seq <| .seq <| .region <| .p (sg rfl) <| .nil <| .seq <| ?_
      refine T.cut (X := Int × (List Int)) (fun x => astrolaberef01_Shl_j2 x.1 x.2) (fun x => (mkS [(6, some (.row 0 (kInt .u32).sz 0 ((x.2).length))), (7, some (.int .u64 x.1))] [(0, (rwK (kInt .u32) 55 x.2))])) ?_ ?_
      · rintro ⟨y24, y25⟩
        dsimp only [astrolaberef01_Shl_j2]
        refine .seq <| .seq <| .region <| .p (mv rfl) <| .p (mv rfl) <| .p (cv Try.underlying122 Try.underlying55 rfl) <| ?_
        refine TR.st 45 (slK (kInt .u32) [(IntKind.u32.wrap y24)]) [] (snd_buildSlice _ _ _ 1 _ _ [(0, (.int .u32 (IntKind.u32.wrap y24)))] (List.map (kInt .u32).enc [(IntKind.u32.wrap y24)]) rfl Try.underlying22 ze55 si55 rfl rfl rfl (by decide) (by decide) (by decide) rfl rfl (Kd.even _) rfl) rfl rfl rfl ?_
        refine .guard fun h29 => ?_
        refine TR.st 46 (.row 1 (kInt .u32).sz 0 (((y25 ++ [(IntKind.u32.wrap y24)])).length)) [(1, (rwK (kInt .u32) 55 (y25 ++ [(IntKind.u32.wrap y24)]))), (0, .dead)] (snd_appendK (kInt .u32) _ _ _ _ _ 0 1 y25 [(IntKind.u32.wrap y24)] rfl Try.underlying22 ze55 sb55 rfl rfl rfl rfl rfl rfl h29) rfl rfl rfl ?_
        refine TR.weak ?_ (fun a w h => Conc.freezeK (kInt .u32) h 46 1 0 (((y25 ++ [(IntKind.u32.wrap y24)])).length) 55 (y25 ++ [(IntKind.u32.wrap y24)]) rfl rfl (by omega))
        refine TR.weak ?_ (fun a w h => take_all h)
        refine .bind fun x26 h30 => .p (c0 (astrolaberef01_Trim_p h30) rfl) <| .p (sg rfl) <| .p (sg rfl) <| .nil <| .seq <| .ret <| fin_2 (.inr rfl) (.nil _) Try.results98 (.t rfl) (.t rfl) (AVle.refl _)
      · intro h31
        refine .block <| .loopW (X := Int × Int × (List Int)) (fun n x => astrolaberef01_Shl_l3 a0 a1 n x.1 x.2.1 x.2.2) (fun x => (mkS [(0, some (slK (kInt .u32) a0)), (1, some (.int .i64 a1)), (6, some (.row 0 (kInt .u32).sz 0 ((x.2.2).length))), (7, some (.int .u64 x.1)), (8, some (.int .i64 x.2.1))] [(0, (rwK (kInt .u32) 55 x.2.2))])) (0, 0, (List.replicate ((IntKind.i64.wrap (a1.tdiv 32)).toNat) (kInt .u32).z)) (jn (m := 0) [(0, 0)] hE (.l rfl <| .i rfl <| .g rfl (.row _ _ _ _ _ rfl) <| .i rfl <| .i rfl <| .nil) (.cons (.refl _) (renV_rw _ _) <| .nil) rfl) (fun _ => rfl) rfl <| ?_
        rintro n3 ⟨y30, y31, y32⟩
        try dsimp only
        rw [astrolaberef01_Shl_l3]
        refine .seq <| .seq <| .region <| .p (mv rfl) <| .p (mv rfl) <| .p (ln Try.underlying22 rfl) <| .p (ar rfl) <| .nil <| .seq <| ?_
        refine T.cond_p rfl iff_dec (fun h48 h49 => ?_) (fun h48 h49 => ?_)
        · refine .skip <| .seq <| .seq <| .block <| .seq <| .region <| .p (mv rfl) <| .p (mv rfl) <| .guard fun h53 => ?_
          refine TR.st 27 (.iptr [(.int .u32 (a0.getD y31.toNat (kInt .u32).z))]) [] (snd_indexK (kInt .u32) _ _ _ _ _ _ y31 rfl Try.underlying22 si55 rfl rfl rfl rfl h53) rfl rfl rfl ?_
          refine .p (lsi sc55 rfl) <| .p (cv Try.underlying55 Try.underlying122 rfl) <| .p (mv rfl) <| ?_
          refine TR.st 31 (.int .i64 (a1.tmod 32)) [] (snd_rem _ _ _ _ _ _ _ rfl rfl rfl rfl rfl (by decide)) rfl rfl rfl ?_
          refine .guard fun h54 => ?_
          refine TR.st 32 (.int .u64 (shlI .u64 (IntKind.u64.wrap (a0.getD y31.toNat (kInt .u32).z)) (a1.tmod 32))) [] (snd_shl _ _ _ _ _ _ _ _ rfl rfl rfl rfl rfl h54) rfl rfl rfl ?_
          refine .p (mv rfl) <| .p (ar rfl) <| .p (sg rfl) <| .nil <| .seq <| .seq <| .region <| .p (mv rfl) <| .p (mv rfl) <| .p (cv Try.underlying122 Try.underlying55 rfl) <| ?_
          refine TR.st 38 (slK (kInt .u32) [(IntKind.u32.wrap (orI .u64 (shlI .u64 (IntKind.u64.wrap (a0.getD y31.toNat (kInt .u32).z)) (a1.tmod 32)) y30))]) [] (snd_buildSlice _ _ _ 1 _ _ [(0, (.int .u32 (IntKind.u32.wrap (orI .u64 (shlI .u64 (IntKind.u64.wrap (a0.getD y31.toNat (kInt .u32).z)) (a1.tmod 32)) y30))))] (List.map (kInt .u32).enc [(IntKind.u32.wrap (orI .u64 (shlI .u64 (IntKind.u64.wrap (a0.getD y31.toNat (kInt .u32).z)) (a1.tmod 32)) y30))]) rfl Try.underlying22 ze55 si55 rfl rfl rfl (by decide) (by decide) (by decide) rfl rfl (Kd.even _) rfl) rfl rfl rfl ?_
          refine .guard fun h55 => ?_
          refine TR.st 39 (.row 1 (kInt .u32).sz 0 (((y32 ++ [(IntKind.u32.wrap (orI .u64 (shlI .u64 (IntKind.u64.wrap (a0.getD y31.toNat (kInt .u32).z)) (a1.tmod 32)) y30))])).length)) [(1, (rwK (kInt .u32) 55 (y32 ++ [(IntKind.u32.wrap (orI .u64 (shlI .u64 (IntKind.u64.wrap (a0.getD y31.toNat (kInt .u32).z)) (a1.tmod 32)) y30))]))), (0, .dead)] (snd_appendK (kInt .u32) _ _ _ _ _ 0 1 y32 [(IntKind.u32.wrap (orI .u64 (shlI .u64 (IntKind.u64.wrap (a0.getD y31.toNat (kInt .u32).z)) (a1.tmod 32)) y30))] rfl Try.underlying22 ze55 sb55 rfl rfl rfl rfl rfl rfl h55) rfl rfl rfl ?_
          refine .p (sg rfl) <| .nil <| .seq <| .region <| .p (mv rfl) <| ?_
          refine TR.st 41 (.int .u64 (shrI .u64 (orI .u64 (shlI .u64 (IntKind.u64.wrap (a0.getD y31.toNat (kInt .u32).z)) (a1.tmod 32)) y30) 32)) [] (snd_shr _ _ _ _ _ _ _ _ rfl rfl rfl rfl rfl (by decide)) rfl rfl rfl ?_
          refine .p (sg rfl) <| .nil <| .block <| .seq <| .region <| .p (mv rfl) <| .p (ar rfl) <| .p (sg rfl) <| .nil <| .again ((shrI .u64 (orI .u64 (shlI .u64 (IntKind.u64.wrap (a0.getD y31.toNat (kInt .u32).z)) (a1.tmod 32)) y30) 32), (IntKind.i64.wrap (y31 + 1)), (y32 ++ [(IntKind.u32.wrap (orI .u64 (shlI .u64 (IntKind.u64.wrap (a0.getD y31.toNat (kInt .u32).z)) (a1.tmod 32)) y30))])) (jn (m := 0) [(1, 0)] hE (.l rfl <| .i rfl <| .g rfl (.row _ _ _ _ _ rfl) <| .i rfl <| .i rfl <| .nil) (.cons (.refl _) (renV_rw _ _) <| .nil) rfl) rfl
        · refine .exit <| .seq_exit <| .loop_exit <| .block_exit <| .weak (h31 (y30, y32)) (jn (m := 0) [(0, 0)] hE (.g rfl (.row _ _ _ _ _ rfl) <| .i rfl <| .nil) (.cons (.refl _) (renV_rw _ _) <| .nil) rfl)
  · intro h56
    refine .region <| .p (mv rfl) <| .p (ar rfl) <| .p (mv rfl) <| ?_
    refine TR.gd 12 _ rfl iff_dec (fun h57 => ?_) (fun h57 => ?_)
    · refine .k rfl <| .k rfl <| .p (pt rfl) <| .nil <| .weak (h56 true) (jn (m := 0) [] hE (.l rfl <| .i rfl <| .b rfl <| .nil) .nil rfl)
    · refine .p (mv rfl) <| .p (ar rfl) <| .p (pf rfl) <| .nil <| .weak (h56 (decide (a1 > 100000))) (jn (m := 0) [] hE (.l rfl <| .i rfl <| .b rfl <| .nil) .nil rfl)
theorem astrolaberef01_Shl_p {a0 : List Int} {a1 : Int} {r : (List Int) × Bool} (h : astrolaberef01_Shl a0 a1 = some r) : Pur Try.prog 98 [(slK (kInt .u32) a0), (.int .i64 a1)] (.tup [(slK (kInt .u32) r.1), (.bool r.2)]) := ⟨⟨_, Try.func98, nm98, rfl⟩, astrolaberef01_Shl_c a0 a1 _ h, fun _ => (.l <| .i <| .nil), fun _ => (ren_tupL (.l <| .b <| .nil))⟩

theorem astrolaberef05_up_c (a0 : ApiInt) (a1 : Int) : ∀ r, astrolaberef05_up a0 a1 = some r → ACalls Try.prog 81 [(.agg (kApiInt.enc a0)), (.int .i64 a1)] (lw []) (.agg (kApiInt.enc (r))) (ld []) := by
  unfold astrolaberef05_up
  refine go 0 Try.func81 Try.ntmps81 rfl ?_
  intro E hE
  refine .seq <| .region <| .w (bx 0 rfl) <| .w (al 1 ze24 rfl) <| .nil <| .seq <| .seq <| .region <| .p (fa 1 fl24_1 rfl) <| .p (ls sc22 rfl) <| .p (sg rfl) <| .nil <| .seq <| .seq <| ?_
  refine T.cut (X := (List Int)) (fun x => astrolaberef05_up_j1 a0 x) (fun x => (mkS [(2, some (.ptr 0 0)), (4, some (.ptr 1 0)), (5, some (slK (kInt .u32) x))] [(0, (.live 24 [(.bool a0.Neg), (slK (kInt .u32) a0.Mag)])), (1, (.live 24 [(.bool false), (slK (kInt .u32) [])]))])) ?_ ?_
  · rintro y33
    dsimp only [astrolaberef05_up_j1]
    refine .seq <| .seq <| .region <| .p (fa 0 fl24_0 rfl) <| .p (ls sc4 rfl) <| .p (mv rfl) <| .bind fun x34 h13 => .p (c0 (astrolaberef04_Make_p h13) rfl) <| .n (sa ag24 rfl) <| .nil <| .seq <| .ret <| fin_1 (.inr rfl) (.nil _) Try.results81 (.a ag24 rfl) (AVle.refl _)
  · intro h14
    refine .block <| .loopW (X := Int × (List Int)) (fun n x => astrolaberef05_up_l2 a0 n x.1 x.2) (fun x => (mkS [(1, some (.int .i64 x.1)), (2, some (.ptr 0 0)), (4, some (.ptr 1 0)), (5, some (slK (kInt .u32) x.2))] [(0, (.live 24 [(.bool a0.Neg), (slK (kInt .u32) a0.Mag)])), (1, (.live 24 [(.bool false), (slK (kInt .u32) [])]))])) (a1, a0.Mag) (jn (m := 0) [(0, 0), (1, 1)] hE (.i rfl <| .p rfl rfl <| .p rfl rfl <| .l rfl <| .nil) (.v rfl (.b <| .l <| .nil) <| .v rfl (.b <| .l <| .nil) <| .nil) rfl) (fun _ => rfl) rfl <| ?_
    rintro n2 ⟨y41, y42⟩
    try dsimp only
    rw [astrolaberef05_up_l2]
    refine .seq <| .seq <| .region <| .p (mv rfl) <| .p (ar rfl) <| .nil <| .seq <| ?_
    refine T.cond_p rfl iff_dec (fun h23 h24 => ?_) (fun h23 h24 => ?_)
    · refine .skip <| .seq <| .block <| .seq <| .region <| .p (mv rfl) <| ?_
      refine TR.st 12 (.int .i64 (mn y41 100000)) [] (snd_min _ _ _ _ _ _ rfl rfl rfl rfl rfl) rfl rfl rfl ?_
      refine .p (sg rfl) <| .nil <| .seq <| .seq <| .region <| .p (mv rfl) <| .p (mv rfl) <| .bind fun x44 h26 => .p (c0 (astrolaberef01_Shl_p h26) rfl) <| .p (mv rfl) <| .p (xt rfl) <| .p (xt rfl) <| .p (sg rfl) <| .nil <| ?_
      refine .seq <| .region <| .p (mv rfl) <| .p (mv rfl) <| .p (ar rfl) <| .p (sg rfl) <| .nil <| .block <| .again ((IntKind.i64.wrap (y41 - (mn y41 100000))), x44.1) (jn (m := 0) [(0, 0), (1, 1)] hE (.i rfl <| .p rfl rfl <| .p rfl rfl <| .l rfl <| .nil) (.v rfl (.b <| .l <| .nil) <| .v rfl (.b <| .l <| .nil) <| .nil) rfl) rfl
    · refine .exit <| .seq_exit <| .loop_exit <| .block_exit <| .weak (h14 y42) (jn (m := 0) [(0, 0), (1, 1)] hE (.p rfl rfl <| .p rfl rfl <| .l rfl <| .nil) (.v rfl (.b <| .l <| .nil) <| .v rfl (.b <| .l <| .nil) <| .nil) rfl)
theorem astrolaberef05_up_p {a0 : ApiInt} {a1 : Int} {r : ApiInt} (h : astrolaberef05_up a0 a1 = some r) : Pur Try.prog 81 [(.agg (kApiInt.enc a0)), (.int .i64 a1)] (.agg (kApiInt.enc (r))) := ⟨⟨_, Try.func81, nm81, rfl⟩, astrolaberef05_up_c a0 a1 _ h, fun _ => (.a kApiInt <| .i <| .nil), fun _ => (ren_agg (K := kApiInt) _)⟩

theorem astrolaberef05_lift_c (a0 : ApiDy) (a1 : ApiDy) : ∀ r, astrolaberef05_lift a0 a1 = some r → ACalls Try.prog 57 [(.agg (kApiDy.enc a0)), (.agg (kApiDy.enc a1))] (lw []) (.tup [(.agg (kApiInt.enc (r.1))), (.agg (kApiInt.enc (r.2.1))), (.int .i64 r.2.2)]) (ld []) := by
  unfold astrolaberef05_lift
  refine go 0 Try.func57 Try.ntmps57 rfl ?_
  intro E hE
  refine .seq <| .region <| .w (bx 0 rfl) <| .w (bx 1 rfl) <| .w (al 2 ze24 rfl) <| .w (al 3 ze24 rfl) <| .p (sg rfl) <| .nil <| .seq <| .seq <| .block <| .seq <| .region <| .p (fa 0 fl26_0 rfl) <| ?_
  refine .p (fa 1 fl24_1 rfl) <| .p (ls sc22 rfl) <| .p (ln Try.underlying22 rfl) <| .p (ar rfl) <| .p (sg rfl) <| .nil <| .seq <| ?_
  refine T.cond_p rfl iff_eq (fun h8 h9 => ?_) (fun h8 h9 => ?_)
  · refine .seq <| .draw mixed <| .p (bd ze24 pl24 rfl) <| .p (fa 0 fl26_0 rfl) <| .p (la ag24 rfl) <| .p (fa 2 fl26_1 rfl) <| .p (ls sc3 rfl) <| .n (sa ag24 rfl) <| .n (sa ag24 rfl) <| .p (sg rfl) <| .nil (by kernel_rfl) <| .seq <| .ret <| .block_ret <| ?_
    refine .seq_ret <| fin_3 (.inr rfl) (.nil _) Try.results57 (.a ag24 rfl) (.a ag24 rfl) (.t rfl) (AVle.refl _)
  · refine .seq <| .region <| .p (fa 0 fl26_0 rfl) <| .p (fa 1 fl24_1 rfl) <| .p (ls sc22 rfl) <| .p (ln Try.underlying22 rfl) <| .p (ar rfl) <| .p (sg rfl) <| .nil <| .seq <| ?_
    refine T.cond_p rfl iff_eq (fun h10 h11 => ?_) (fun h10 h11 => ?_)
    · refine .seq <| .draw mixed <| .p (fa 0 fl26_0 rfl) <| .p (la ag24 rfl) <| .p (bd ze24 pl24 rfl) <| .p (fa 2 fl26_1 rfl) <| .p (ls sc3 rfl) <| .n (sa ag24 rfl) <| .n (sa ag24 rfl) <| .p (sg rfl) <| .nil (by kernel_rfl) <| .seq <| .ret <| .block_ret <| ?_
      refine .seq_ret <| fin_3 (.inr rfl) (.nil _) Try.results57 (.a ag24 rfl) (.a ag24 rfl) (.t rfl) (AVle.refl _)
    · refine .seq <| .region <| .p (fa 2 fl26_1 rfl) <| .p (ls sc3 rfl) <| .p (fa 2 fl26_1 rfl) <| .p (ls sc3 rfl) <| .p (ar rfl) <| .p (sg rfl) <| .nil <| .seq <| ?_
      refine T.cond_p rfl iff_dec (fun h12 h13 => ?_) (fun h12 h13 => ?_)
      · refine .seq <| .draw mixed <| .p (fa 0 fl26_0 rfl) <| .p (la ag24 rfl) <| .p (fa 2 fl26_1 rfl) <| .p (ls sc3 rfl) <| .p (fa 2 fl26_1 rfl) <| .p (ls sc3 rfl) <| .p (ar rfl) <| .bind fun x5 h14 => .p (c0 (astrolaberef05_up_p h14) rfl) <| .p (fa 0 fl26_0 rfl) <| .p (la ag24 rfl) <| .p (fa 2 fl26_1 rfl) <| ?_
        refine .p (ls sc3 rfl) <| .n (sa ag24 rfl) <| .n (sa ag24 rfl) <| .p (sg rfl) <| .nil (by kernel_rfl) <| .seq <| .ret <| .block_ret <| .seq_ret <| fin_3 (.inr rfl) (.nil _) Try.results57 (.a ag24 rfl) (.a ag24 rfl) (.t rfl) (AVle.refl _)
      · refine .skip <| .block <| .seq <| .seq <| .draw mixed <| .p (fa 0 fl26_0 rfl) <| .p (la ag24 rfl) <| .p (fa 0 fl26_0 rfl) <| .p (la ag24 rfl) <| .p (fa 2 fl26_1 rfl) <| .p (ls sc3 rfl) <| .p (fa 2 fl26_1 rfl) <| .p (ls sc3 rfl) <| .p (ar rfl) <| ?_
        refine .bind fun x6 h15 => .p (c0 (astrolaberef05_up_p h15) rfl) <| .p (fa 2 fl26_1 rfl) <| .p (ls sc3 rfl) <| .n (sa ag24 rfl) <| .n (sa ag24 rfl) <| .p (sg rfl) <| .nil (by kernel_rfl) <| .seq <| .ret <| fin_3 (.inr rfl) (.nil _) Try.results57 (.a ag24 rfl) (.a ag24 rfl) (.t rfl) (AVle.refl _)
theorem astrolaberef05_lift_p {a0 : ApiDy} {a1 : ApiDy} {r : ApiInt × ApiInt × Int} (h : astrolaberef05_lift a0 a1 = some r) : Pur Try.prog 57 [(.agg (kApiDy.enc a0)), (.agg (kApiDy.enc a1))] (.tup [(.agg (kApiInt.enc (r.1))), (.agg (kApiInt.enc (r.2.1))), (.int .i64 r.2.2)]) := ⟨⟨_, Try.func57, nm57, rfl⟩, astrolaberef05_lift_c a0 a1 _ h, fun _ => (.a kApiDy <| .a kApiDy <| .nil), fun _ => (ren_tupL (.a kApiInt <| .a kApiInt <| .i <| .nil))⟩

theorem astrolaberef05_Cmp_c (a0 : ApiDy) (a1 : ApiDy) : ∀ r, astrolaberef05_Cmp a0 a1 = some r → ACalls Try.prog 26 [(.agg (kApiDy.enc a0)), (.agg (kApiDy.enc a1))] (lw []) (.int .i64 r) (ld []) := by
  unfold astrolaberef05_Cmp
  refine go 0 Try.func26 Try.ntmps26 rfl ?_
  intro E hE
  refine .seq <| .region <| .w (bx 0 rfl) <| .w (bx 1 rfl) <| .p (sg rfl) <| .nil <| .seq <| .seq <| .region <| .p (la ag26 rfl) <| .bind fun x12 h1 => .p (c0 (astrolaberef05_Right_p h1) rfl) <| .p (sg rfl) <| .nil <| ?_
  refine .seq <| .seq <| .region <| .p (la ag26 rfl) <| .bind fun x13 h2 => .p (c0 (astrolaberef05_Right_p h2) rfl) <| .p (sg rfl) <| .nil <| .seq <| .seq <| .seq <| ?_
  refine T.cut (X := Bool) (fun x => astrolaberef05_Cmp_j1 a0 a1 x) (fun x => (mkS [(2, some (.ptr 0 0)), (3, some (.ptr 1 0)), (19, some (.bool x))] [(0, (.live 26 [(.bool a0.M.Neg), (slK (kInt .u32) a0.M.Mag), (.int .i64 a0.E)])), (1, (.live 26 [(.bool a1.M.Neg), (slK (kInt .u32) a1.M.Mag), (.int .i64 a1.E)]))])) ?_ ?_
  · rintro y14
    dsimp only [astrolaberef05_Cmp_j1]
    refine .seq <| ?_
    refine T.cond_p rfl iff_b (fun h4 h5 => ?_) (fun h4 h5 => ?_)
    · refine .seq <| .region <| .p (sg rfl) <| .nil <| .seq <| .ret <| .seq_ret <| fin_1 (.inr rfl) (.nil _) Try.results26 (.t rfl) (AVle.refl _)
    · refine .skip <| .seq <| .seq <| .seq <| ?_
      refine T.cut (X := Bool) (fun x => astrolaberef05_Cmp_j2 a0 a1 x) (fun x => (mkS [(2, some (.ptr 0 0)), (3, some (.ptr 1 0)), (40, some (.bool x))] [(0, (.live 26 [(.bool a0.M.Neg), (slK (kInt .u32) a0.M.Mag), (.int .i64 a0.E)])), (1, (.live 26 [(.bool a1.M.Neg), (slK (kInt .u32) a1.M.Mag), (.int .i64 a1.E)]))])) ?_ ?_
      · rintro y15
        dsimp only [astrolaberef05_Cmp_j2]
        refine .seq <| ?_
        refine T.cond_p rfl iff_b (fun h8 h9 => ?_) (fun h8 h9 => ?_)
        · refine .seq <| .region <| .p (fa 0 fl26_0 rfl) <| .p (la ag24 rfl) <| .p (fa 0 fl26_0 rfl) <| .p (la ag24 rfl) <| .bind fun x16 h10 => .p (c0 (astrolaberef04_Cmp_p h10) rfl) <| .p (sg rfl) <| .nil <| .seq <| .ret <| .seq_ret <| fin_1 (.inr rfl) (.nil _) Try.results26 (.t rfl) (AVle.refl _)
        · refine .skip <| .seq <| .seq <| .seq <| .draw mixed <| .p (la ag26 rfl) <| .bind fun x17 h11 => .p (c0 (astrolaberef05_size_p h11) rfl) <| .p (la ag26 rfl) <| .bind fun x18 h12 => .p (c0 (astrolaberef05_size_p h12) rfl) <| .p (ar rfl) <| .nil (by kernel_rfl) <| .seq <| ?_
          refine T.cond_p rfl iff_ne (fun h13 h14 => ?_) (fun h13 h14 => ?_)
          · refine .seq <| .seq <| .draw mixed <| .p (la ag26 rfl) <| .bind fun x19 h15 => .p (c0 (astrolaberef05_size_p h15) rfl) <| .p (la ag26 rfl) <| .bind fun x20 h16 => .p (c0 (astrolaberef05_size_p h16) rfl) <| .p (ar rfl) <| .p (fa 0 fl26_0 rfl) <| .p (fa 0 fl24_0 rfl) <| .p (ls sc4 rfl) <| ?_
            refine TD.st 59 (.bool ((decide (x19 < x20)) == a0.M.Neg)) [] (snd_bool_eql _ _ _ _ _ _ rfl Try.underlying4 rfl rfl rfl rfl) rfl rfl rfl ?_
            refine .nil (by kernel_rfl) <| .seq <| ?_
            refine T.cond_p rfl iff_b (fun h17 h18 => ?_) (fun h17 h18 => ?_)
            · refine .seq <| .region <| .p (sg rfl) <| .nil <| .seq <| .ret <| .seq_ret <| .seq_ret <| fin_1 (.inr rfl) (.nil _) Try.results26 (.t rfl) (AVle.refl _)
            · refine .skip <| .seq <| .seq <| .region <| .p (sg rfl) <| .nil <| .seq <| .ret <| .seq_ret <| fin_1 (.inr rfl) (.nil _) Try.results26 (.t rfl) (AVle.refl _)
          · refine .skip <| .seq <| .seq <| .region <| .p (la ag26 rfl) <| .p (la ag26 rfl) <| .bind fun x21 h19 => .p (c0 (astrolaberef05_lift_p h19) rfl) <| .p (mv rfl) <| .p (xt rfl) <| .p (xt rfl) <| .p (xt rfl) <| .w (al 2 ze24 rfl) <| .w (al 3 ze24 rfl) <| ?_
            refine .n (sa ag24 rfl) <| .n (sa ag24 rfl) <| .p (sg rfl) <| .nil <| .seq <| .seq <| .region <| .p (la ag24 rfl) <| .p (la ag24 rfl) <| .bind fun x22 h20 => .p (c0 (astrolaberef04_Cmp_p h20) rfl) <| .p (sg rfl) <| .nil <| .seq <| ?_
            refine .ret <| fin_1 (.inr rfl) (.nil _) Try.results26 (.t rfl) (AVle.refl _)
      · intro h21
        refine .region <| .p (fa 0 fl26_0 rfl) <| .p (fa 0 fl24_0 rfl) <| .p (ls sc4 rfl) <| .p (fa 0 fl26_0 rfl) <| .p (fa 0 fl24_0 rfl) <| .p (ls sc4 rfl) <| ?_
        refine TR.st 26 (.bool (a0.M.Neg != a1.M.Neg)) [] (snd_bool_neq _ _ _ _ _ _ rfl Try.underlying4 rfl rfl rfl rfl) rfl rfl rfl ?_
        refine .p (mv rfl) <| ?_
        refine TR.gd 27 _ rfl iff_b (fun h22 => ?_) (fun h22 => ?_)
        · refine .k rfl <| .k rfl <| .k rfl <| .k rfl <| .k rfl <| .p (pt rfl) <| .p (mv rfl) <| .k rfl <| .k rfl <| .k rfl <| .k rfl <| .k rfl <| .p (pt rfl) <| .nil <| .weak (h21 true) (jn (m := 0) [(0, 0), (1, 1)] hE (.p rfl rfl <| .p rfl rfl <| .b rfl <| .nil) (.v rfl (.b <| .l <| .i <| .nil) <| .v rfl (.b <| .l <| .i <| .nil) <| .nil) rfl)
        · refine .p (fa 0 fl26_0 rfl) <| .p (fa 1 fl24_1 rfl) <| .p (ls sc22 rfl) <| .p (ln Try.underlying22 rfl) <| .p (ar rfl) <| .p (pf rfl) <| .p (mv rfl) <| ?_
          refine TR.gd 34 _ rfl iff_eq (fun h23 => ?_) (fun h23 => ?_)
          · refine .k rfl <| .k rfl <| .k rfl <| .k rfl <| .k rfl <| .p (pt rfl) <| .nil <| .weak (h21 true) (jn (m := 0) [(0, 0), (1, 1)] hE (.p rfl rfl <| .p rfl rfl <| .b rfl <| .nil) (.v rfl (.b <| .l <| .i <| .nil) <| .v rfl (.b <| .l <| .i <| .nil) <| .nil) rfl)
          · refine .p (fa 0 fl26_0 rfl) <| .p (fa 1 fl24_1 rfl) <| .p (ls sc22 rfl) <| .p (ln Try.underlying22 rfl) <| .p (ar rfl) <| .p (pf rfl) <| .nil <| .weak (h21 ((a1.M.Mag.length : Int) == 0)) (jn (m := 0) [(0, 0), (1, 1)] hE (.p rfl rfl <| .p rfl rfl <| .b rfl <| .nil) (.v rfl (.b <| .l <| .i <| .nil) <| .v rfl (.b <| .l <| .i <| .nil) <| .nil) rfl)
  · intro h24
    refine .region <| .p (mv rfl) <| .p (un rfl) <| .p (mv rfl) <| ?_
    refine TR.gd 16 _ rfl iff_nb (fun h25 => ?_) (fun h25 => ?_)
    · refine .k rfl <| .k rfl <| .p (pt rfl) <| .nil <| .weak (h24 true) (jn (m := 0) [(0, 0), (1, 1)] hE (.p rfl rfl <| .p rfl rfl <| .b rfl <| .nil) (.v rfl (.b <| .l <| .i <| .nil) <| .v rfl (.b <| .l <| .i <| .nil) <| .nil) rfl)
    · refine .p (mv rfl) <| .p (un rfl) <| .p (pf rfl) <| .nil <| .weak (h24 (!x13)) (jn (m := 0) [(0, 0), (1, 1)] hE (.p rfl rfl <| .p rfl rfl <| .b rfl <| .nil) (.v rfl (.b <| .l <| .i <| .nil) <| .v rfl (.b <| .l <| .i <| .nil) <| .nil) rfl)
theorem astrolaberef05_Cmp_p {a0 : ApiDy} {a1 : ApiDy} {r : Int} (h : astrolaberef05_Cmp a0 a1 = some r) : Pur Try.prog 26 [(.agg (kApiDy.enc a0)), (.agg (kApiDy.enc a1))] (.int .i64 r) := ⟨⟨_, Try.func26, nm26, rfl⟩, astrolaberef05_Cmp_c a0 a1 _ h, fun _ => (.a kApiDy <| .a kApiDy <| .nil), fun _ => (.int _ _)⟩

theorem astrolabelaw06_span_c (a0 : ApiDy) (a1 : ApiDy) : ∀ r, astrolabelaw06_span a0 a1 = some r → ACalls Try.prog 8 [(.agg (kApiDy.enc a0)), (.agg (kApiDy.enc a1))] (lw []) (.agg (kApiIv.enc (⟨⟨(((r).Lo).M), ((r).Lo).E⟩, ⟨(((r).Hi).M), ((r).Hi).E⟩⟩ : ApiIv))) (ld []) := by
  unfold astrolabelaw06_span
  refine go 0 Try.func8 Try.ntmps8 rfl ?_
  intro E hE
  refine .seq <| .region <| .w (bx 0 rfl) <| .w (bx 1 rfl) <| .w (al 2 ze34 rfl) <| .nil <| .seq <| .seq <| .region <| .p (la ag26 rfl) <| .bind fun x10 h1 => .p (c0 (astrolabelaw06_tame_p h1) rfl) <| .w (al 3 ze26 rfl) <| .n (sa ag26 rfl) <| ?_
  refine .nil <| .seq <| .seq <| .region <| .p (la ag26 rfl) <| .bind fun x11 h2 => .p (c0 (astrolabelaw06_tame_p h2) rfl) <| .w (al 4 ze26 rfl) <| .n (sa ag26 rfl) <| .nil <| .seq <| .seq <| .seq <| .region <| ?_
  refine .p (la ag26 rfl) <| .p (la ag26 rfl) <| .bind fun x12 h3 => .p (c0 (astrolaberef05_Cmp_p h3) rfl) <| .p (ar rfl) <| .nil <| .seq <| ?_
  refine T.cut (X := Bool × (List Int) × Int × Bool × (List Int) × Int) (fun x => astrolabelaw06_span_j1 x.1 x.2.1 x.2.2.1 x.2.2.2.1 x.2.2.2.2.1 x.2.2.2.2.2) (fun x => (mkS [(4, some (.ptr 2 0)), (5, some (.ptr 3 0)), (6, some (.ptr 4 0))] [(2, (.live 34 [(.bool false), (slK (kInt .u32) []), (.int .i64 0), (.bool false), (slK (kInt .u32) []), (.int .i64 0)])), (3, (.live 26 [(.bool x.1), (slK (kInt .u32) x.2.1), (.int .i64 x.2.2.1)])), (4, (.live 26 [(.bool x.2.2.2.1), (slK (kInt .u32) x.2.2.2.2.1), (.int .i64 x.2.2.2.2.2)]))])) ?_ ?_
  · rintro ⟨y13, y14, y15, y16, y17, y18⟩
    dsimp only [astrolabelaw06_span_j1]
    refine .seq <| .seq <| .region <| .p (la ag26 rfl) <| .p (la ag26 rfl) <| .p (bd ze34 pl34 rfl) <| .n (sa ag34 rfl) <| .nil <| .seq <| .ret <| fin_1 (.inr rfl) (.nil _) Try.results8 (.a ag34 rfl) (AVle.refl _)
  · intro h6
    refine T.cond_p rfl iff_dec (fun h7 h8 => ?_) (fun h7 h8 => ?_)
    · refine .region <| .p (la ag26 rfl) <| .p (la ag26 rfl) <| .n (sa ag26 rfl) <| .n (sa ag26 rfl) <| .nil <| .weak (h6 (((x11).M).Neg, ((x11).M).Mag, (x11).E, ((x10).M).Neg, ((x10).M).Mag, (x10).E)) (jn (m := 0) [(2, 2), (3, 3), (4, 4)] hE (.p rfl rfl <| .p rfl rfl <| .p rfl rfl <| .nil) (.v rfl (.b <| .l <| .i <| .b <| .l <| .i <| .nil) <| .v rfl (.b <| .l <| .i <| .nil) <| .v rfl (.b <| .l <| .i <| .nil) <| .nil) rfl)
    · refine .skip <| .weak (h6 (((x10).M).Neg, ((x10).M).Mag, (x10).E, ((x11).M).Neg, ((x11).M).Mag, (x11).E)) (jn (m := 0) [(2, 2), (3, 3), (4, 4)] hE (.p rfl rfl <| .p rfl rfl <| .p rfl rfl <| .nil) (.v rfl (.b <| .l <| .i <| .b <| .l <| .i <| .nil) <| .v rfl (.b <| .l <| .i <| .nil) <| .v rfl (.b <| .l <| .i <| .nil) <| .nil) rfl)
theorem astrolabelaw06_span_p {a0 : ApiDy} {a1 : ApiDy} {r : ApiIv} (h : astrolabelaw06_span a0 a1 = some r) : Pur Try.prog 8 [(.agg (kApiDy.enc a0)), (.agg (kApiDy.enc a1))] (.agg (kApiIv.enc (⟨⟨(((r).Lo).M), ((r).Lo).E⟩, ⟨(((r).Hi).M), ((r).Hi).E⟩⟩ : ApiIv))) := ⟨⟨_, Try.func8, nm8, rfl⟩, astrolabelaw06_span_c a0 a1 _ h, fun _ => (.a kApiDy <| .a kApiDy <| .nil), fun _ => (ren_agg (K := kApiIv) _)⟩

theorem dyad_Scale_c (a0 : ApiDy) (a1 : Int) : ∀ r, dyad_Scale a0 a1 = some r → ACalls Try.prog 30 [(.agg (kApiDy.enc a0)), (.int .i64 a1)] (lw []) (.tup [(.agg (kApiDy.enc (⟨((r.1).M), (r.1).E⟩ : ApiDy))), (.int .i64 r.2)]) (ld []) := by
  unfold dyad_Scale
  refine go 0 Try.func30 Try.ntmps30 rfl ?_
  intro E hE
  refine .seq <| .region <| .w (bx 0 rfl) <| .w (al 1 ze26 rfl) <| .p (sg rfl) <| .nil <| .seq <| .seq <| .region <| .p (bd ze71 pl71 rfl) <| .w (bx 2 rfl) <| .p (sg rfl) <| .nil <| .seq <| ?_
  refine .seq <| .seq <| ?_
  refine T.cut (X := Bool × Int) (fun x => dyad_Scale_j1 a0 a1 x.1 x.2) (fun x => (mkS [(1, some (.int .i64 a1)), (2, some (.ptr 0 0)), (4, some (.ptr 1 0)), (6, some (.ptr 2 0)), (25, some (.bool x.1))] [(0, (.live 26 [(.bool a0.M.Neg), (slK (kInt .u32) a0.M.Mag), (.int .i64 a0.E)])), (1, (.live 26 [(.bool false), (slK (kInt .u32) []), (.int .i64 0)])), (2, (.live 71 [(.int .i64 x.2), (.bool false), (slK (kInt .u32) []), (.int .i64 0)]))])) ?_ ?_
  · rintro ⟨y19, y20⟩
    dsimp only [dyad_Scale_j1]
    refine .seq <| ?_
    refine T.cut (X := Bool × (List Int) × Int) (fun x => dyad_Scale_j2 y20 x.1 x.2.1 x.2.2) (fun x => (mkS [(4, some (.ptr 1 0)), (6, some (.ptr 2 0))] [(1, (.live 26 [(.bool false), (slK (kInt .u32) []), (.int .i64 0)])), (2, (.live 71 [(.int .i64 y20), (.bool x.1), (slK (kInt .u32) x.2.1), (.int .i64 x.2.2)]))])) ?_ ?_
    · rintro ⟨y21, y22, y23⟩
      dsimp only [dyad_Scale_j2]
      refine .seq <| .seq <| .region <| .p (mv rfl) <| .bind fun x24 h9 => .w (cl (dyad_work_told_k h9) [2] [] [true] rfl (.p rfl <| .nil) (.p rfl (.i <| .b <| .l <| .i <| .nil) .nil) fresh_nil (.cons (.v (.i <| .b <| .l <| .i <| .nil)) .nil) (ren_tupL (.a kApiDy <| .i <| .nil)) (.turned .nil) rfl) <| .p (xt rfl) <| .p (xt rfl) <| .n (sa ag26 rfl) <| .p (sg rfl) <| .nil <| .seq <| .ret <| fin_2 (.inr rfl) (.nil _) Try.results30 (.a ag26 rfl) (.t rfl) (AVle.refl _)
    · intro h10
      refine T.cond_p rfl iff_b (fun h11 h12 => ?_) (fun h11 h12 => ?_)
      · refine .region <| .p (mv rfl) <| .p (fa 0 fl26_0 rfl) <| .p (la ag24 rfl) <| .p (fa 2 fl26_1 rfl) <| .p (ls sc3 rfl) <| .p (mv rfl) <| .p (ar rfl) <| .p (bd ze26 pl26 rfl) <| .p (nc rfl) <| .p (fa 1 fl71_1 rfl) <| .n (sa ag26 rfl) <| .nil <| .weak (h10 (a0.M.Neg, a0.M.Mag, (IntKind.i64.wrap (a0.E + a1)))) (jn (m := 0) [(1, 1), (2, 2)] hE (.p rfl rfl <| .p rfl rfl <| .nil) (.v rfl (.b <| .l <| .i <| .nil) <| .v rfl (.i <| .b <| .l <| .i <| .nil) <| .nil) rfl)
      · refine .skip <| .weak (h10 (false, [], 0)) (jn (m := 0) [(1, 1), (2, 2)] hE (.p rfl rfl <| .p rfl rfl <| .nil) (.v rfl (.b <| .l <| .i <| .nil) <| .v rfl (.i <| .b <| .l <| .i <| .nil) <| .nil) rfl)
  · intro h13
    refine .draw mixed <| .p (mv rfl) <| .p (la ag26 rfl) <| ?_
    refine TD.st 11 (slK kApiDy [a0]) [] (snd_buildSlice _ _ _ 3 _ _ [(0, (.agg (kApiDy.enc a0)))] (List.map kApiDy.enc [a0]) rfl Try.underlying79 ze26 si26 rfl rfl rfl (by decide) (by decide) (by decide) rfl rfl (Kd.even _) rfl) rfl rfl rfl ?_
    refine .bind fun x25 h14 => .w (cl (dyad_work_right_k h14) [2] [] [true] rfl (.p rfl <| .l <| .nil) (.p rfl (.i <| .b <| .l <| .i <| .nil) .nil) fresh_nil (.cons (.v (.i <| .b <| .l <| .i <| .nil)) .nil) (.bool _) (.turned .nil) rfl) <| .p (mv rfl) <| ?_
    refine TD.gd 13 _ rfl iff_b (fun h15 => ?_) (fun h15 => ?_)
    · refine .p (mv rfl) <| .p (nc rfl) <| .p (fa 0 fl71_0 rfl) <| .p (mv rfl) <| .bind fun x26 h16 => .p (c0 (dyad_within_p h16) rfl) <| .bind fun x27 h17 => .w (cl (dyad_fault_must_k h17) [2] [] [true] rfl (.p rfl <| .b <| .i <| .nil) (.p rfl (.i <| .b <| .l <| .i <| .nil) .nil) fresh_nil (.cons (.v (.i <| .b <| .l <| .i <| .nil)) .nil) (.bool _) (.turned .nil) rfl) <| .p (pt rfl) <| .p (mv rfl) <| ?_
      refine TD.gd 21 _ rfl iff_b (fun h18 => ?_) (fun h18 => ?_)
      · refine .p (la ag26 rfl) <| .bind fun x28 h19 => .p (c0 (dyad_zero_p h19) rfl) <| .p (un rfl) <| .p (pt rfl) <| .nil (by kernel_rfl) <| .weak (h13 ((!x28), x27.2)) (jn (m := 0) [(0, 0), (1, 1), (2, 2)] hE (.i rfl <| .p rfl rfl <| .p rfl rfl <| .p rfl rfl <| .b rfl <| .nil) (.v rfl (.b <| .l <| .i <| .nil) <| .v rfl (.b <| .l <| .i <| .nil) <| .v rfl (.i <| .b <| .l <| .i <| .nil) <| .nil) rfl)
      · refine .k rfl <| .k rfl <| .k rfl <| .p (pf rfl) <| .nil (by kernel_rfl) <| .weak (h13 (false, x27.2)) (jn (m := 0) [(0, 0), (1, 1), (2, 2)] hE (.i rfl <| .p rfl rfl <| .p rfl rfl <| .p rfl rfl <| .b rfl <| .nil) (.v rfl (.b <| .l <| .i <| .nil) <| .v rfl (.b <| .l <| .i <| .nil) <| .v rfl (.i <| .b <| .l <| .i <| .nil) <| .nil) rfl)
    · refine .k rfl <| .k rfl <| .k rfl <| .k rfl <| .k rfl <| .k rfl <| .p (pf rfl) <| .p (mv rfl) <| .k rfl <| .k rfl <| .k rfl <| .p (pf rfl) <| .nil (by kernel_rfl) <| .weak (h13 (false, x25.2)) (jn (m := 0) [(0, 0), (1, 1), (2, 2)] hE (.i rfl <| .p rfl rfl <| .p rfl rfl <| .p rfl rfl <| .b rfl <| .nil) (.v rfl (.b <| .l <| .i <| .nil) <| .v rfl (.b <| .l <| .i <| .nil) <| .v rfl (.i <| .b <| .l <| .i <| .nil) <| .nil) rfl)
theorem dyad_Scale_p {a0 : ApiDy} {a1 : Int} {r : ApiDy × Int} (h : dyad_Scale a0 a1 = some r) : Pur Try.prog 30 [(.agg (kApiDy.enc a0)), (.int .i64 a1)] (.tup [(.agg (kApiDy.enc (⟨((r.1).M), (r.1).E⟩ : ApiDy))), (.int .i64 r.2)]) := ⟨⟨_, Try.func30, nm30, rfl⟩, dyad_Scale_c a0 a1 _ h, fun _ => (.a kApiDy <| .i <| .nil), fun _ => (ren_tupL (.a kApiDy <| .i <| .nil))⟩

theorem iv_Calc_Scale_c (a0 : ApiIv) (a1 : Int) (a2 : Int) (a3 : Int) : ∀ r, iv_Calc_Scale a0 a1 a2 a3 = some r → ACalls Try.prog 10 [(.ptr 0 0), (.agg (kApiIv.enc a0)), (.int .i64 a1)] (lw [(.live 47 [(.int .i64 a2), (.int .i64 a3)])]) (.agg (kApiIv.enc (⟨⟨(((r.1).Lo).M), ((r.1).Lo).E⟩, ⟨(((r.1).Hi).M), ((r.1).Hi).E⟩⟩ : ApiIv))) (ld [(.live 47 [(.int .i64 r.2), (.int .i64 a3)])]) := by
  unfold iv_Calc_Scale
  refine go 1 Try.func10 Try.ntmps10 rfl ?_
  intro E hE
  refine .seq <| .region <| .w (bx 1 rfl) <| .w (al 2 ze34 rfl) <| .nil <| .seq <| .seq <| .seq <| .region <| .p (mv rfl) <| .p (la ag34 rfl) <| ?_
  refine TR.st 10 (slK kApiIv [a0]) [] (snd_buildSlice _ _ _ 6 _ _ [(0, (.agg (kApiIv.enc a0)))] (List.map kApiIv.enc [a0]) rfl Try.underlying88 ze34 si34 rfl rfl rfl (by decide) (by decide) (by decide) rfl rfl (Kd.even _) rfl) rfl rfl rfl ?_
  refine .bind fun x7 h1 => .w (cl (iv_Calc_fine_k h1) [0] [] [true] rfl (.p rfl <| .l <| .nil) (.p rfl (.i <| .i <| .nil) .nil) fresh_nil (.cons (.v (.i <| .i <| .nil)) .nil) (.bool _) (.turned .nil) rfl) <| .p (un rfl) <| .nil <| .seq <| ?_
  refine T.cond_p rfl iff_nb (fun h2 h3 => ?_) (fun h2 h3 => ?_)
  · refine .seq <| .region <| .p (bd ze34 pl34 rfl) <| .n (sa ag34 rfl) <| .nil <| .seq <| .ret <| .seq_ret <| fin_1 (.inr rfl) (.k rfl (.nil _)) Try.results10 (.a ag34 rfl) (AVle.refl _)
  · refine .skip <| .seq <| .seq <| .region <| .p (mv rfl) <| .p (fa 0 fl34_0 rfl) <| .p (la ag26 rfl) <| .p (mv rfl) <| .bind fun x8 h4 => .p (c0 (dyad_Scale_p h4) rfl) <| .p (xt rfl) <| .p (xt rfl) <| .bind fun x9 h5 => .w (cl (iv_Calc_take_k h5) [0] [] [true] rfl (.p rfl <| .a kApiDy <| .i <| .nil) (.p rfl (.i <| .i <| .nil) .nil) fresh_nil (.cons (.v (.i <| .i <| .nil)) .nil) (ren_agg (K := kApiDy) _) (.turned .nil) rfl) <| ?_
    refine .w (al 3 ze26 rfl) <| .n (sa ag26 rfl) <| .nil <| .seq <| .seq <| .seq <| .region <| .p (mv rfl) <| .p (nc rfl) <| .p (fa 0 fl47_0 rfl) <| .p (fa 0 fl45_0 rfl) <| .p (ls sc29 rfl) <| .p (ar rfl) <| .nil <| ?_
    refine .seq <| ?_
    refine T.cond_p rfl iff_ne (fun h6 h7 => ?_) (fun h6 h7 => ?_)
    · refine .seq <| .region <| .p (bd ze34 pl34 rfl) <| .n (sa ag34 rfl) <| .nil <| .seq <| .ret <| .seq_ret <| fin_1 (.inr rfl) (.k rfl (.nil _)) Try.results10 (.a ag34 rfl) (AVle.refl _)
    · refine .skip <| .seq <| .seq <| .draw mixed <| .p (mv rfl) <| .p (la ag26 rfl) <| .p (mv rfl) <| .p (fa 3 fl34_1 rfl) <| .p (la ag26 rfl) <| .p (mv rfl) <| .bind fun x10 h8 => .p (c0 (dyad_Scale_p h8) rfl) <| .p (xt rfl) <| .p (xt rfl) <| ?_
      refine .bind fun x11 h9 => .w (cl (iv_Calc_take_k h9) [0] [] [true] rfl (.p rfl <| .a kApiDy <| .i <| .nil) (.p rfl (.i <| .i <| .nil) .nil) fresh_nil (.cons (.v (.i <| .i <| .nil)) .nil) (ren_agg (K := kApiDy) _) (.turned .nil) rfl) <| .bind fun x12 h10 => .p (cl (iv_Calc_out_k h10) [0] [] [false] rfl (.p rfl <| .a kApiDy <| .a kApiDy <| .nil) (.p rfl (.i <| .i <| .nil) .nil) fresh_nil (.cons (.v (.i <| .i <| .nil)) .nil) (ren_agg (K := kApiIv) _) (.kept rfl .nil) rfl) <| .n (sa ag34 rfl) <| .nil (by kernel_rfl) <| .seq <| .ret <| fin_1 (.inr rfl) (.k rfl (.nil _)) Try.results10 (.a ag34 rfl) (AVle.refl _)
theorem iv_Calc_Scale_k {a0 : ApiIv} {a1 : Int} {a2 : Int} {a3 : Int} {r : ApiIv × Int} (h : iv_Calc_Scale a0 a1 a2 a3 = some r) : Cal Try.prog 10 [(.ptr 0 0), (.agg (kApiIv.enc a0)), (.int .i64 a1)] [(.live 47 [(.int .i64 a2), (.int .i64 a3)])] (.agg (kApiIv.enc (⟨⟨(((r.1).Lo).M), ((r.1).Lo).E⟩, ⟨(((r.1).Hi).M), ((r.1).Hi).E⟩⟩ : ApiIv))) [(.live 47 [(.int .i64 r.2), (.int .i64 a3)])] := ⟨⟨_, Try.func10, nm10, rfl⟩, iv_Calc_Scale_c a0 a1 a2 a3 _ h⟩

theorem iv_Calc_Neg_c (a0 : ApiIv) (a1 : Int) (a2 : Int) : ∀ r, iv_Calc_Neg a0 a1 a2 = some r → ACalls Try.prog 12 [(.ptr 0 0), (.agg (kApiIv.enc a0))] (lw [(.live 47 [(.int .i64 a1), (.int .i64 a2)])]) (.agg (kApiIv.enc (⟨⟨(((r.1).Lo).M), ((r.1).Lo).E⟩, ⟨(((r.1).Hi).M), ((r.1).Hi).E⟩⟩ : ApiIv))) (ld [(.live 47 [(.int .i64 r.2), (.int .i64 a2)])]) := by
  unfold iv_Calc_Neg
  refine go 1 Try.func12 Try.ntmps12 rfl ?_
  intro E hE
  refine .seq <| .region <| .w (bx 1 rfl) <| .w (al 2 ze34 rfl) <| .nil <| .seq <| .seq <| .seq <| .region <| .p (mv rfl) <| .p (la ag34 rfl) <| ?_
  refine TR.st 7 (slK kApiIv [a0]) [] (snd_buildSlice _ _ _ 6 _ _ [(0, (.agg (kApiIv.enc a0)))] (List.map kApiIv.enc [a0]) rfl Try.underlying88 ze34 si34 rfl rfl rfl (by decide) (by decide) (by decide) rfl rfl (Kd.even _) rfl) rfl rfl rfl ?_
  refine .bind fun x4 h1 => .w (cl (iv_Calc_fine_k h1) [0] [] [true] rfl (.p rfl <| .l <| .nil) (.p rfl (.i <| .i <| .nil) .nil) fresh_nil (.cons (.v (.i <| .i <| .nil)) .nil) (.bool _) (.turned .nil) rfl) <| .p (un rfl) <| .nil <| .seq <| ?_
  refine T.cond_p rfl iff_nb (fun h2 h3 => ?_) (fun h2 h3 => ?_)
  · refine .seq <| .region <| .p (bd ze34 pl34 rfl) <| .n (sa ag34 rfl) <| .nil <| .seq <| .ret <| .seq_ret <| fin_1 (.inr rfl) (.k rfl (.nil _)) Try.results12 (.a ag34 rfl) (AVle.refl _)
  · refine .skip <| .seq <| .seq <| .draw mixed <| .p (fa 3 fl34_1 rfl) <| .p (la ag26 rfl) <| .bind fun x5 h4 => .p (c0 (dyad_Neg_p h4) rfl) <| .p (fa 0 fl34_0 rfl) <| .p (la ag26 rfl) <| .bind fun x6 h5 => .p (c0 (dyad_Neg_p h5) rfl) <| .p (bd ze34 pl34 rfl) <| .n (sa ag34 rfl) <| ?_
    refine .nil (by kernel_rfl) <| .seq <| .ret <| fin_1 (.inr rfl) (.k rfl (.nil _)) Try.results12 (.a ag34 rfl) (AVle.refl _)
theorem iv_Calc_Neg_k {a0 : ApiIv} {a1 : Int} {a2 : Int} {r : ApiIv × Int} (h : iv_Calc_Neg a0 a1 a2 = some r) : Cal Try.prog 12 [(.ptr 0 0), (.agg (kApiIv.enc a0))] [(.live 47 [(.int .i64 a1), (.int .i64 a2)])] (.agg (kApiIv.enc (⟨⟨(((r.1).Lo).M), ((r.1).Lo).E⟩, ⟨(((r.1).Hi).M), ((r.1).Hi).E⟩⟩ : ApiIv))) [(.live 47 [(.int .i64 r.2), (.int .i64 a2)])] := ⟨⟨_, Try.func12, nm12, rfl⟩, iv_Calc_Neg_c a0 a1 a2 _ h⟩

theorem dyad_Add_c (a0 : ApiDy) (a1 : ApiDy) : ∀ r, dyad_Add a0 a1 = some r → ACalls Try.prog 20 [(.agg (kApiDy.enc a0)), (.agg (kApiDy.enc a1))] (lw []) (.tup [(.agg (kApiDy.enc (⟨((r.1).M), (r.1).E⟩ : ApiDy))), (.int .i64 r.2)]) (ld []) := by
  unfold dyad_Add
  refine go 0 Try.func20 Try.ntmps20 rfl ?_
  intro E hE
  refine .seq <| .region <| .w (bx 0 rfl) <| .w (bx 1 rfl) <| .w (al 2 ze26 rfl) <| .p (sg rfl) <| .nil <| .seq <| .seq <| .region <| .p (bd ze71 pl71 rfl) <| .w (bx 3 rfl) <| .p (sg rfl) <| .nil <| ?_
  refine .seq <| .seq <| .seq <| .region <| .p (mv rfl) <| .p (la ag26 rfl) <| .p (la ag26 rfl) <| ?_
  refine TR.st 12 (slK kApiDy [a0, a1]) [] (snd_buildSlice _ _ _ 3 _ _ [(0, (.agg (kApiDy.enc a0))), (1, (.agg (kApiDy.enc a1)))] (List.map kApiDy.enc [a0, a1]) rfl Try.underlying79 ze26 si26 rfl rfl rfl (by decide) (by decide) (by decide) rfl rfl (Kd.even _) rfl) rfl rfl rfl ?_
  refine .bind fun x8 h1 => .w (cl (dyad_work_right_k h1) [3] [] [true] rfl (.p rfl <| .l <| .nil) (.p rfl (.i <| .b <| .l <| .i <| .nil) .nil) fresh_nil (.cons (.v (.i <| .b <| .l <| .i <| .nil)) .nil) (.bool _) (.turned .nil) rfl) <| .nil <| .seq <| ?_
  refine T.cut (X := Bool × (List Int) × Int) (fun x => dyad_Add_j1 x8 x.1 x.2.1 x.2.2) (fun x => (mkS [(4, some (.ptr 2 0)), (6, some (.ptr 3 0))] [(2, (.live 26 [(.bool false), (slK (kInt .u32) []), (.int .i64 0)])), (3, (.live 71 [(.int .i64 x8.2), (.bool x.1), (slK (kInt .u32) x.2.1), (.int .i64 x.2.2)]))])) ?_ ?_
  · rintro ⟨y10, y11, y12⟩
    dsimp only [dyad_Add_j1]
    refine .seq <| .seq <| .region <| .p (mv rfl) <| .bind fun x13 h5 => .w (cl (dyad_work_told_k h5) [3] [] [true] rfl (.p rfl <| .nil) (.p rfl (.i <| .b <| .l <| .i <| .nil) .nil) fresh_nil (.cons (.v (.i <| .b <| .l <| .i <| .nil)) .nil) (ren_tupL (.a kApiDy <| .i <| .nil)) (.turned .nil) rfl) <| .p (xt rfl) <| .p (xt rfl) <| .n (sa ag26 rfl) <| .p (sg rfl) <| .nil <| .seq <| .ret <| fin_2 (.inr rfl) (.nil _) Try.results20 (.a ag26 rfl) (.t rfl) (AVle.refl _)
  · intro h6
    refine T.cond_p rfl iff_b (fun h7 h8 => ?_) (fun h7 h8 => ?_)
    · refine .region <| .p (mv rfl) <| .p (la ag26 rfl) <| .p (la ag26 rfl) <| .bind fun x14 h9 => .p (c0 (dyad_sum_p h9) rfl) <| .p (nc rfl) <| .p (fa 1 fl71_1 rfl) <| .n (sa ag26 rfl) <| .nil <| .weak (h6 (((x14).M).Neg, ((x14).M).Mag, (x14).E)) (jn (m := 0) [(2, 2), (3, 3)] hE (.p rfl rfl <| .p rfl rfl <| .nil) (.v rfl (.b <| .l <| .i <| .nil) <| .v rfl (.i <| .b <| .l <| .i <| .nil) <| .nil) rfl)
    · refine .skip <| .weak (h6 (false, [], 0)) (jn (m := 0) [(2, 2), (3, 3)] hE (.p rfl rfl <| .p rfl rfl <| .nil) (.v rfl (.b <| .l <| .i <| .nil) <| .v rfl (.i <| .b <| .l <| .i <| .nil) <| .nil) rfl)
theorem dyad_Add_p {a0 : ApiDy} {a1 : ApiDy} {r : ApiDy × Int} (h : dyad_Add a0 a1 = some r) : Pur Try.prog 20 [(.agg (kApiDy.enc a0)), (.agg (kApiDy.enc a1))] (.tup [(.agg (kApiDy.enc (⟨((r.1).M), (r.1).E⟩ : ApiDy))), (.int .i64 r.2)]) := ⟨⟨_, Try.func20, nm20, rfl⟩, dyad_Add_c a0 a1 _ h, fun _ => (.a kApiDy <| .a kApiDy <| .nil), fun _ => (ren_tupL (.a kApiDy <| .i <| .nil))⟩

theorem iv_Calc_sum_c (a0 : ApiDy) (a1 : ApiDy) (a2 : Int) (a3 : Int) : ∀ r, iv_Calc_sum a0 a1 a2 a3 = some r → ACalls Try.prog 40 [(.ptr 0 0), (.agg (kApiDy.enc a0)), (.agg (kApiDy.enc a1))] (lw [(.live 47 [(.int .i64 a2), (.int .i64 a3)])]) (.agg (kApiDy.enc (⟨((r.1).M), (r.1).E⟩ : ApiDy))) (ld [(.live 47 [(.int .i64 r.2), (.int .i64 a3)])]) := by
  unfold iv_Calc_sum
  refine go 1 Try.func40 Try.ntmps40 rfl ?_
  intro E hE
  refine .seq <| .region <| .w (bx 1 rfl) <| .w (bx 2 rfl) <| .w (al 3 ze26 rfl) <| .nil <| .seq <| .seq <| .seq <| .region <| .p (mv rfl) <| .p (nc rfl) <| .p (fa 0 fl47_0 rfl) <| .p (fa 0 fl45_0 rfl) <| ?_
  refine .p (ls sc29 rfl) <| .p (ar rfl) <| .nil <| .seq <| ?_
  refine T.cond_p rfl iff_ne (fun h1 h2 => ?_) (fun h1 h2 => ?_)
  · refine .seq <| .region <| .p (bd ze26 pl26 rfl) <| .n (sa ag26 rfl) <| .nil <| .seq <| .ret <| .seq_ret <| fin_1 (.inr rfl) (.k rfl (.nil _)) Try.results40 (.a ag26 rfl) (AVle.refl _)
  · refine .skip <| .seq <| .seq <| .region <| .p (mv rfl) <| .p (la ag26 rfl) <| .p (la ag26 rfl) <| .bind fun x3 h3 => .p (c0 (dyad_Add_p h3) rfl) <| .p (xt rfl) <| .p (xt rfl) <| .bind fun x4 h4 => .w (cl (iv_Calc_take_k h4) [0] [] [true] rfl (.p rfl <| .a kApiDy <| .i <| .nil) (.p rfl (.i <| .i <| .nil) .nil) fresh_nil (.cons (.v (.i <| .i <| .nil)) .nil) (ren_agg (K := kApiDy) _) (.turned .nil) rfl) <| .n (sa ag26 rfl) <| ?_
    refine .nil <| .seq <| .ret <| fin_1 (.inr rfl) (.k rfl (.nil _)) Try.results40 (.a ag26 rfl) (AVle.refl _)
theorem iv_Calc_sum_k {a0 : ApiDy} {a1 : ApiDy} {a2 : Int} {a3 : Int} {r : ApiDy × Int} (h : iv_Calc_sum a0 a1 a2 a3 = some r) : Cal Try.prog 40 [(.ptr 0 0), (.agg (kApiDy.enc a0)), (.agg (kApiDy.enc a1))] [(.live 47 [(.int .i64 a2), (.int .i64 a3)])] (.agg (kApiDy.enc (⟨((r.1).M), (r.1).E⟩ : ApiDy))) [(.live 47 [(.int .i64 r.2), (.int .i64 a3)])] := ⟨⟨_, Try.func40, nm40, rfl⟩, iv_Calc_sum_c a0 a1 a2 a3 _ h⟩

theorem dyad_Round_c (a0 : ApiDy) (a1 : Int) (a2 : Bool) : ∀ r, dyad_Round a0 a1 a2 = some r → ACalls Try.prog 69 [(.agg (kApiDy.enc a0)), (.int .i64 a1), (.bool a2)] (lw []) (.tup [(.agg (kApiDy.enc (⟨((r.1).M), (r.1).E⟩ : ApiDy))), (.int .i64 r.2)]) (ld []) := by
  unfold dyad_Round
  refine go 0 Try.func69 Try.ntmps69 rfl ?_
  intro E hE
  refine .seq <| .region <| .w (bx 0 rfl) <| .w (al 1 ze26 rfl) <| .p (sg rfl) <| .nil <| .seq <| .seq <| .region <| .p (bd ze71 pl71 rfl) <| .w (bx 2 rfl) <| .p (sg rfl) <| .nil <| .seq <| ?_
  refine .seq <| .seq <| ?_
  refine T.cut (X := Bool × Int) (fun x => dyad_Round_j1 a0 a1 a2 x.1 x.2) (fun x => (mkS [(1, some (.int .i64 a1)), (2, some (.bool a2)), (3, some (.ptr 0 0)), (6, some (.ptr 1 0)), (8, some (.ptr 2 0)), (19, some (.bool x.1))] [(0, (.live 26 [(.bool a0.M.Neg), (slK (kInt .u32) a0.M.Mag), (.int .i64 a0.E)])), (1, (.live 26 [(.bool false), (slK (kInt .u32) []), (.int .i64 0)])), (2, (.live 71 [(.int .i64 x.2), (.bool false), (slK (kInt .u32) []), (.int .i64 0)]))])) ?_ ?_
  · rintro ⟨y15, y16⟩
    dsimp only [dyad_Round_j1]
    refine .seq <| ?_
    refine T.cut (X := Bool × (List Int) × Int) (fun x => dyad_Round_j2 y16 x.1 x.2.1 x.2.2) (fun x => (mkS [(6, some (.ptr 1 0)), (8, some (.ptr 2 0))] [(1, (.live 26 [(.bool false), (slK (kInt .u32) []), (.int .i64 0)])), (2, (.live 71 [(.int .i64 y16), (.bool x.1), (slK (kInt .u32) x.2.1), (.int .i64 x.2.2)]))])) ?_ ?_
    · rintro ⟨y18, y19, y20⟩
      dsimp only [dyad_Round_j2]
      refine .seq <| .seq <| .region <| .p (mv rfl) <| .bind fun x21 h7 => .w (cl (dyad_work_told_k h7) [2] [] [true] rfl (.p rfl <| .nil) (.p rfl (.i <| .b <| .l <| .i <| .nil) .nil) fresh_nil (.cons (.v (.i <| .b <| .l <| .i <| .nil)) .nil) (ren_tupL (.a kApiDy <| .i <| .nil)) (.turned .nil) rfl) <| .p (xt rfl) <| .p (xt rfl) <| .n (sa ag26 rfl) <| .p (sg rfl) <| .nil <| .seq <| .ret <| fin_2 (.inr rfl) (.nil _) Try.results69 (.a ag26 rfl) (.t rfl) (AVle.refl _)
    · intro h8
      refine T.cond_p rfl iff_b (fun h9 h10 => ?_) (fun h9 h10 => ?_)
      · refine .region <| .p (mv rfl) <| .p (fa 0 fl26_0 rfl) <| .p (fa 0 fl24_0 rfl) <| .p (ls sc4 rfl) <| .p (fa 0 fl26_0 rfl) <| .p (fa 1 fl24_1 rfl) <| .p (ls sc22 rfl) <| .p (fa 2 fl26_1 rfl) <| .p (ls sc3 rfl) <| .p (mv rfl) <| .p (mv rfl) <| .p (fa 0 fl26_0 rfl) <| .p (fa 0 fl24_0 rfl) <| ?_
        refine .p (ls sc4 rfl) <| ?_
        refine TR.st 34 (.bool (a2 != a0.M.Neg)) [] (snd_bool_neq _ _ _ _ _ _ rfl Try.underlying4 rfl rfl rfl rfl) rfl rfl rfl ?_
        refine .bind fun x22 h11 => .w (cl (dyad_work_cut_k h11) [2] [] [true] rfl (.p rfl <| .b <| .l <| .i <| .b <| .i <| .b <| .nil) (.p rfl (.i <| .b <| .l <| .i <| .nil) .nil) fresh_nil (.cons (.v (.i <| .b <| .l <| .i <| .nil)) .nil) (ren_tupL .nil) (.turned .nil) rfl) <| .nil <| .weak (h8 (x22.1, x22.2.1, x22.2.2)) (jn (m := 0) [(1, 1), (2, 2)] hE (.p rfl rfl <| .p rfl rfl <| .nil) (.v rfl (.b <| .l <| .i <| .nil) <| .v rfl (.i <| .b <| .l <| .i <| .nil) <| .nil) rfl)
      · refine .skip <| .weak (h8 (false, [], 0)) (jn (m := 0) [(1, 1), (2, 2)] hE (.p rfl rfl <| .p rfl rfl <| .nil) (.v rfl (.b <| .l <| .i <| .nil) <| .v rfl (.i <| .b <| .l <| .i <| .nil) <| .nil) rfl)
  · intro h12
    refine .region <| .p (mv rfl) <| .p (la ag26 rfl) <| ?_
    refine TR.st 13 (slK kApiDy [a0]) [] (snd_buildSlice _ _ _ 3 _ _ [(0, (.agg (kApiDy.enc a0)))] (List.map kApiDy.enc [a0]) rfl Try.underlying79 ze26 si26 rfl rfl rfl (by decide) (by decide) (by decide) rfl rfl (Kd.even _) rfl) rfl rfl rfl ?_
    refine .bind fun x23 h13 => .w (cl (dyad_work_right_k h13) [2] [] [true] rfl (.p rfl <| .l <| .nil) (.p rfl (.i <| .b <| .l <| .i <| .nil) .nil) fresh_nil (.cons (.v (.i <| .b <| .l <| .i <| .nil)) .nil) (.bool _) (.turned .nil) rfl) <| .p (mv rfl) <| ?_
    refine TR.gd 15 _ rfl iff_b (fun h14 => ?_) (fun h14 => ?_)
    · refine .p (mv rfl) <| .p (mv rfl) <| .bind fun x24 h15 => .w (cl (dyad_work_prec_k h15) [2] [] [true] rfl (.p rfl <| .i <| .nil) (.p rfl (.i <| .b <| .l <| .i <| .nil) .nil) fresh_nil (.cons (.v (.i <| .b <| .l <| .i <| .nil)) .nil) (.bool _) (.turned .nil) rfl) <| .p (pt rfl) <| .nil <| .weak (h12 (x24.1, x24.2)) (jn (m := 0) [(0, 0), (1, 1), (2, 2)] hE (.i rfl <| .b rfl <| .p rfl rfl <| .p rfl rfl <| .p rfl rfl <| .b rfl <| .nil) (.v rfl (.b <| .l <| .i <| .nil) <| .v rfl (.b <| .l <| .i <| .nil) <| .v rfl (.i <| .b <| .l <| .i <| .nil) <| .nil) rfl)
    · refine .k rfl <| .k rfl <| .k rfl <| .p (pf rfl) <| .nil <| .weak (h12 (false, x23.2)) (jn (m := 0) [(0, 0), (1, 1), (2, 2)] hE (.i rfl <| .b rfl <| .p rfl rfl <| .p rfl rfl <| .p rfl rfl <| .b rfl <| .nil) (.v rfl (.b <| .l <| .i <| .nil) <| .v rfl (.b <| .l <| .i <| .nil) <| .v rfl (.i <| .b <| .l <| .i <| .nil) <| .nil) rfl)
theorem dyad_Round_p {a0 : ApiDy} {a1 : Int} {a2 : Bool} {r : ApiDy × Int} (h : dyad_Round a0 a1 a2 = some r) : Pur Try.prog 69 [(.agg (kApiDy.enc a0)), (.int .i64 a1), (.bool a2)] (.tup [(.agg (kApiDy.enc (⟨((r.1).M), (r.1).E⟩ : ApiDy))), (.int .i64 r.2)]) := ⟨⟨_, Try.func69, nm69, rfl⟩, dyad_Round_c a0 a1 a2 _ h, fun _ => (.a kApiDy <| .i <| .b <| .nil), fun _ => (ren_tupL (.a kApiDy <| .i <| .nil))⟩

theorem iv_Calc_down_c (a0 : ApiDy) (a1 : Int) (a2 : Int) : ∀ r, iv_Calc_down a0 a1 a2 = some r → ACalls Try.prog 41 [(.ptr 0 0), (.agg (kApiDy.enc a0))] (lw [(.live 47 [(.int .i64 a1), (.int .i64 a2)])]) (.agg (kApiDy.enc (⟨((r.1).M), (r.1).E⟩ : ApiDy))) (ld [(.live 47 [(.int .i64 r.2), (.int .i64 a2)])]) := by
  unfold iv_Calc_down
  refine go 1 Try.func41 Try.ntmps41 rfl ?_
  intro E hE
  refine .seq <| .region <| .w (bx 1 rfl) <| .w (al 2 ze26 rfl) <| .nil <| .seq <| .seq <| .seq <| .region <| .p (mv rfl) <| .p (nc rfl) <| .p (fa 0 fl47_0 rfl) <| .p (fa 0 fl45_0 rfl) <| .p (ls sc29 rfl) <| ?_
  refine .p (ar rfl) <| .nil <| .seq <| ?_
  refine T.cond_p rfl iff_ne (fun h1 h2 => ?_) (fun h1 h2 => ?_)
  · refine .seq <| .region <| .p (bd ze26 pl26 rfl) <| .n (sa ag26 rfl) <| .nil <| .seq <| .ret <| .seq_ret <| fin_1 (.inr rfl) (.k rfl (.nil _)) Try.results41 (.a ag26 rfl) (AVle.refl _)
  · refine .skip <| .seq <| .seq <| .draw mixed <| .p (mv rfl) <| .p (la ag26 rfl) <| .p (mv rfl) <| .p (nc rfl) <| .p (fa 1 fl47_1 rfl) <| .p (ls sc3 rfl) <| .bind fun x3 h3 => .p (c0 (dyad_Round_p h3) rfl) <| .p (xt rfl) <| .p (xt rfl) <| ?_
    refine .bind fun x4 h4 => .w (cl (iv_Calc_take_k h4) [0] [] [true] rfl (.p rfl <| .a kApiDy <| .i <| .nil) (.p rfl (.i <| .i <| .nil) .nil) fresh_nil (.cons (.v (.i <| .i <| .nil)) .nil) (ren_agg (K := kApiDy) _) (.turned .nil) rfl) <| .n (sa ag26 rfl) <| .nil (by kernel_rfl) <| .seq <| .ret <| fin_1 (.inr rfl) (.k rfl (.nil _)) Try.results41 (.a ag26 rfl) (AVle.refl _)
theorem iv_Calc_down_k {a0 : ApiDy} {a1 : Int} {a2 : Int} {r : ApiDy × Int} (h : iv_Calc_down a0 a1 a2 = some r) : Cal Try.prog 41 [(.ptr 0 0), (.agg (kApiDy.enc a0))] [(.live 47 [(.int .i64 a1), (.int .i64 a2)])] (.agg (kApiDy.enc (⟨((r.1).M), (r.1).E⟩ : ApiDy))) [(.live 47 [(.int .i64 r.2), (.int .i64 a2)])] := ⟨⟨_, Try.func41, nm41, rfl⟩, iv_Calc_down_c a0 a1 a2 _ h⟩

theorem iv_Calc_up_c (a0 : ApiDy) (a1 : Int) (a2 : Int) : ∀ r, iv_Calc_up a0 a1 a2 = some r → ACalls Try.prog 42 [(.ptr 0 0), (.agg (kApiDy.enc a0))] (lw [(.live 47 [(.int .i64 a1), (.int .i64 a2)])]) (.agg (kApiDy.enc (⟨((r.1).M), (r.1).E⟩ : ApiDy))) (ld [(.live 47 [(.int .i64 r.2), (.int .i64 a2)])]) := by
  unfold iv_Calc_up
  refine go 1 Try.func42 Try.ntmps42 rfl ?_
  intro E hE
  refine .seq <| .region <| .w (bx 1 rfl) <| .w (al 2 ze26 rfl) <| .nil <| .seq <| .seq <| .seq <| .region <| .p (mv rfl) <| .p (nc rfl) <| .p (fa 0 fl47_0 rfl) <| .p (fa 0 fl45_0 rfl) <| .p (ls sc29 rfl) <| ?_
  refine .p (ar rfl) <| .nil <| .seq <| ?_
  refine T.cond_p rfl iff_ne (fun h1 h2 => ?_) (fun h1 h2 => ?_)
  · refine .seq <| .region <| .p (bd ze26 pl26 rfl) <| .n (sa ag26 rfl) <| .nil <| .seq <| .ret <| .seq_ret <| fin_1 (.inr rfl) (.k rfl (.nil _)) Try.results42 (.a ag26 rfl) (AVle.refl _)
  · refine .skip <| .seq <| .seq <| .draw mixed <| .p (mv rfl) <| .p (la ag26 rfl) <| .p (mv rfl) <| .p (nc rfl) <| .p (fa 1 fl47_1 rfl) <| .p (ls sc3 rfl) <| .bind fun x3 h3 => .p (c0 (dyad_Round_p h3) rfl) <| .p (xt rfl) <| .p (xt rfl) <| ?_
    refine .bind fun x4 h4 => .w (cl (iv_Calc_take_k h4) [0] [] [true] rfl (.p rfl <| .a kApiDy <| .i <| .nil) (.p rfl (.i <| .i <| .nil) .nil) fresh_nil (.cons (.v (.i <| .i <| .nil)) .nil) (ren_agg (K := kApiDy) _) (.turned .nil) rfl) <| .n (sa ag26 rfl) <| .nil (by kernel_rfl) <| .seq <| .ret <| fin_1 (.inr rfl) (.k rfl (.nil _)) Try.results42 (.a ag26 rfl) (AVle.refl _)
theorem iv_Calc_up_k {a0 : ApiDy} {a1 : Int} {a2 : Int} {r : ApiDy × Int} (h : iv_Calc_up a0 a1 a2 = some r) : Cal Try.prog 42 [(.ptr 0 0), (.agg (kApiDy.enc a0))] [(.live 47 [(.int .i64 a1), (.int .i64 a2)])] (.agg (kApiDy.enc (⟨((r.1).M), (r.1).E⟩ : ApiDy))) [(.live 47 [(.int .i64 r.2), (.int .i64 a2)])] := ⟨⟨_, Try.func42, nm42, rfl⟩, iv_Calc_up_c a0 a1 a2 _ h⟩

theorem iv_Calc_Add_c (a0 : ApiIv) (a1 : ApiIv) (a2 : Int) (a3 : Int) : ∀ r, iv_Calc_Add a0 a1 a2 a3 = some r → ACalls Try.prog 32 [(.ptr 0 0), (.agg (kApiIv.enc a0)), (.agg (kApiIv.enc a1))] (lw [(.live 47 [(.int .i64 a2), (.int .i64 a3)])]) (.agg (kApiIv.enc (⟨⟨(((r.1).Lo).M), ((r.1).Lo).E⟩, ⟨(((r.1).Hi).M), ((r.1).Hi).E⟩⟩ : ApiIv))) (ld [(.live 47 [(.int .i64 r.2), (.int .i64 a3)])]) := by
  unfold iv_Calc_Add
  refine go 1 Try.func32 Try.ntmps32 rfl ?_
  intro E hE
  refine .seq <| .region <| .w (bx 1 rfl) <| .w (bx 2 rfl) <| .w (al 3 ze34 rfl) <| .nil <| .seq <| .seq <| .seq <| .region <| .p (mv rfl) <| .p (la ag34 rfl) <| .p (la ag34 rfl) <| ?_
  refine TR.st 11 (slK kApiIv [a0, a1]) [] (snd_buildSlice _ _ _ 6 _ _ [(0, (.agg (kApiIv.enc a0))), (1, (.agg (kApiIv.enc a1)))] (List.map kApiIv.enc [a0, a1]) rfl Try.underlying88 ze34 si34 rfl rfl rfl (by decide) (by decide) (by decide) rfl rfl (Kd.even _) rfl) rfl rfl rfl ?_
  refine .bind fun x7 h1 => .w (cl (iv_Calc_fine_k h1) [0] [] [true] rfl (.p rfl <| .l <| .nil) (.p rfl (.i <| .i <| .nil) .nil) fresh_nil (.cons (.v (.i <| .i <| .nil)) .nil) (.bool _) (.turned .nil) rfl) <| .p (un rfl) <| .nil <| .seq <| ?_
  refine T.cond_p rfl iff_nb (fun h2 h3 => ?_) (fun h2 h3 => ?_)
  · refine .seq <| .region <| .p (bd ze34 pl34 rfl) <| .n (sa ag34 rfl) <| .nil <| .seq <| .ret <| .seq_ret <| fin_1 (.inr rfl) (.k rfl (.nil _)) Try.results32 (.a ag34 rfl) (AVle.refl _)
  · refine .skip <| .seq <| .seq <| .region <| .p (mv rfl) <| .p (mv rfl) <| .p (fa 0 fl34_0 rfl) <| .p (la ag26 rfl) <| .p (fa 0 fl34_0 rfl) <| .p (la ag26 rfl) <| .bind fun x8 h4 => .w (cl (iv_Calc_sum_k h4) [0] [] [true] rfl (.p rfl <| .a kApiDy <| .a kApiDy <| .nil) (.p rfl (.i <| .i <| .nil) .nil) fresh_nil (.cons (.v (.i <| .i <| .nil)) .nil) (ren_agg (K := kApiDy) _) (.turned .nil) rfl) <| .bind fun x9 h5 => .w (cl (iv_Calc_down_k h5) [0] [] [true] rfl (.p rfl <| .a kApiDy <| .nil) (.p rfl (.i <| .i <| .nil) .nil) fresh_nil (.cons (.v (.i <| .i <| .nil)) .nil) (ren_agg (K := kApiDy) _) (.turned .nil) rfl) <| ?_
    refine .w (al 4 ze26 rfl) <| .n (sa ag26 rfl) <| .nil <| .seq <| .seq <| .draw mixed <| .p (mv rfl) <| .p (la ag26 rfl) <| .p (mv rfl) <| .p (mv rfl) <| .p (fa 3 fl34_1 rfl) <| .p (la ag26 rfl) <| .p (fa 3 fl34_1 rfl) <| .p (la ag26 rfl) <| ?_
    refine .bind fun x10 h6 => .w (cl (iv_Calc_sum_k h6) [0] [] [true] rfl (.p rfl <| .a kApiDy <| .a kApiDy <| .nil) (.p rfl (.i <| .i <| .nil) .nil) fresh_nil (.cons (.v (.i <| .i <| .nil)) .nil) (ren_agg (K := kApiDy) _) (.turned .nil) rfl) <| .bind fun x11 h7 => .w (cl (iv_Calc_up_k h7) [0] [] [true] rfl (.p rfl <| .a kApiDy <| .nil) (.p rfl (.i <| .i <| .nil) .nil) fresh_nil (.cons (.v (.i <| .i <| .nil)) .nil) (ren_agg (K := kApiDy) _) (.turned .nil) rfl) <| .bind fun x12 h8 => .p (cl (iv_Calc_out_k h8) [0] [] [false] rfl (.p rfl <| .a kApiDy <| .a kApiDy <| .nil) (.p rfl (.i <| .i <| .nil) .nil) fresh_nil (.cons (.v (.i <| .i <| .nil)) .nil) (ren_agg (K := kApiIv) _) (.kept rfl .nil) rfl) <| .n (sa ag34 rfl) <| .nil (by kernel_rfl) <| .seq <| .ret <| fin_1 (.inr rfl) (.k rfl (.nil _)) Try.results32 (.a ag34 rfl) (AVle.refl _)
theorem iv_Calc_Add_k {a0 : ApiIv} {a1 : ApiIv} {a2 : Int} {a3 : Int} {r : ApiIv × Int} (h : iv_Calc_Add a0 a1 a2 a3 = some r) : Cal Try.prog 32 [(.ptr 0 0), (.agg (kApiIv.enc a0)), (.agg (kApiIv.enc a1))] [(.live 47 [(.int .i64 a2), (.int .i64 a3)])] (.agg (kApiIv.enc (⟨⟨(((r.1).Lo).M), ((r.1).Lo).E⟩, ⟨(((r.1).Hi).M), ((r.1).Hi).E⟩⟩ : ApiIv))) [(.live 47 [(.int .i64 r.2), (.int .i64 a3)])] := ⟨⟨_, Try.func32, nm32, rfl⟩, iv_Calc_Add_c a0 a1 a2 a3 _ h⟩

theorem iv_Calc_Sub_c (a0 : ApiIv) (a1 : ApiIv) (a2 : Int) (a3 : Int) : ∀ r, iv_Calc_Sub a0 a1 a2 a3 = some r → ACalls Try.prog 11 [(.ptr 0 0), (.agg (kApiIv.enc a0)), (.agg (kApiIv.enc a1))] (lw [(.live 47 [(.int .i64 a2), (.int .i64 a3)])]) (.agg (kApiIv.enc (⟨⟨(((r.1).Lo).M), ((r.1).Lo).E⟩, ⟨(((r.1).Hi).M), ((r.1).Hi).E⟩⟩ : ApiIv))) (ld [(.live 47 [(.int .i64 r.2), (.int .i64 a3)])]) := by
  unfold iv_Calc_Sub
  refine go 1 Try.func11 Try.ntmps11 rfl ?_
  intro E hE
  refine .seq <| .region <| .w (bx 1 rfl) <| .w (bx 2 rfl) <| .w (al 3 ze34 rfl) <| .nil <| .seq <| .seq <| .draw mixed <| .p (mv rfl) <| .p (la ag34 rfl) <| .p (mv rfl) <| .p (la ag34 rfl) <| .bind fun x3 h1 => ?_
  refine .w (cl (iv_Calc_Neg_k h1) [0] [] [true] rfl (.p rfl <| .a kApiIv <| .nil) (.p rfl (.i <| .i <| .nil) .nil) fresh_nil (.cons (.v (.i <| .i <| .nil)) .nil) (ren_agg (K := kApiIv) _) (.turned .nil) rfl) <| .bind fun x4 h2 => .w (cl (iv_Calc_Add_k h2) [0] [] [true] rfl (.p rfl <| .a kApiIv <| .a kApiIv <| .nil) (.p rfl (.i <| .i <| .nil) .nil) fresh_nil (.cons (.v (.i <| .i <| .nil)) .nil) (ren_agg (K := kApiIv) _) (.turned .nil) rfl) <| .n (sa ag34 rfl) <| .nil (by kernel_rfl) <| .seq <| .ret <| fin_1 (.inr rfl) (.k rfl (.nil _)) Try.results11 (.a ag34 rfl) (AVle.refl _)
theorem iv_Calc_Sub_k {a0 : ApiIv} {a1 : ApiIv} {a2 : Int} {a3 : Int} {r : ApiIv × Int} (h : iv_Calc_Sub a0 a1 a2 a3 = some r) : Cal Try.prog 11 [(.ptr 0 0), (.agg (kApiIv.enc a0)), (.agg (kApiIv.enc a1))] [(.live 47 [(.int .i64 a2), (.int .i64 a3)])] (.agg (kApiIv.enc (⟨⟨(((r.1).Lo).M), ((r.1).Lo).E⟩, ⟨(((r.1).Hi).M), ((r.1).Hi).E⟩⟩ : ApiIv))) [(.live 47 [(.int .i64 r.2), (.int .i64 a3)])] := ⟨⟨_, Try.func11, nm11, rfl⟩, iv_Calc_Sub_c a0 a1 a2 a3 _ h⟩

theorem astrolabelaw06_IvScales_c (a0 : ApiDy) (a1 : ApiDy) (a2 : Int) (a3 : Int) : ∀ r, astrolabelaw06_IvScales a0 a1 a2 a3 = some r → ACalls Try.prog 3 [(.agg (kApiDy.enc a0)), (.agg (kApiDy.enc a1)), (.int .i64 a2), (.int .i64 a3)] (lw []) (.bool r) (ld []) := by
  unfold astrolabelaw06_IvScales
  refine go 0 Try.func3 Try.ntmps3 rfl ?_
  intro E hE
  refine .seq <| .region <| .w (bx 0 rfl) <| .w (bx 1 rfl) <| .p (sg rfl) <| .nil <| .seq <| .seq <| .region <| .bind fun x21 h1 => .p (c0 (astrolabelaw06_examples_p h1) rfl) <| .p (sg rfl) <| .nil <| .seq <| ?_
  refine .seq <| .seq <| .region <| .p (mv rfl) <| .p (un rfl) <| .nil <| .seq <| ?_
  refine T.cond_p rfl iff_nb (fun h2 h3 => ?_) (fun h2 h3 => ?_)
  · refine .seq <| .region <| .p (sg rfl) <| .nil <| .seq <| .ret <| .seq_ret <| fin_1 (.inr rfl) (.nil _) Try.results3 (.t rfl) (AVle.refl _)
  · refine .skip <| .seq <| .seq <| .region <| .p (mv rfl) <| .bind fun x22 h4 => .p (c0 (astrolabelaw06_prec_p h4) rfl) <| .bind fun x23 h5 => ?_
    rcases x23 with x24 | x25
    · dsimp only
      refine .w (cl (iv_New_k_0 h5) [] [2] [true] rfl (.i <| .nil) .nil (fresh_cons rfl fresh_nil) (.cons .dead .nil) (ren_tupL (.cons .nilptr <| .i <| .nil)) (.turned .nil) rfl) <| .p (mv rfl) <| .p (xt rfl) <| .p (xt rfl) <| .p (sg rfl) <| .p (sg rfl) <| .nil <| .seq <| .seq <| .seq <| .region <| .p (mv rfl) <| ?_
      refine TR.st 28 (.bool true) [] (snd_ptr_nil _ _ _ _ _ _ _ true true rfl Try.underlying28 rfl rfl rfl (.inr ⟨rfl, rfl⟩) rfl (.inl ⟨rfl, rfl⟩)) rfl rfl rfl ?_
      refine .p (mv rfl) <| .k rfl <| .k rfl <| .p (pt rfl) <| .nil <| .seq <| .cond_t rfl <| .seq <| .region <| .p (sg rfl) <| .nil <| .seq <| .ret <| .seq_ret <| fin_1 (.inr rfl) (.nil _) Try.results3 (.t rfl) (AVle.refl _)
    · dsimp only
      refine .w (cl (iv_New_k_1 h5) [] [2] [true] rfl (.i <| .nil) .nil (fresh_cons rfl fresh_nil) (.cons (.v (.i <| .i <| .nil)) .nil) (ren_tupL (.p rfl <| .i <| .nil)) (.turned .nil) rfl) <| .p (mv rfl) <| .p (xt rfl) <| .p (xt rfl) <| .p (sg rfl) <| .p (sg rfl) <| .nil <| .seq <| .seq <| .seq <| .region <| .p (mv rfl) <| ?_
      refine TR.st 28 (.bool false) [] (snd_ptr_nil _ _ _ _ _ _ _ false false rfl Try.underlying28 rfl rfl rfl (.inl ⟨⟨_, _, rfl⟩, rfl⟩) rfl (.inl ⟨rfl, rfl⟩)) rfl rfl rfl ?_
      refine .p (mv rfl) <| .p (mv rfl) <| .p (ar rfl) <| .p (pf rfl) <| .nil <| .seq <| ?_
      refine T.cond_p rfl iff_ne (fun h6 h7 => ?_) (fun h6 h7 => ?_)
      · refine .seq <| .region <| .p (sg rfl) <| .nil <| .seq <| .ret <| .seq_ret <| fin_1 (.inr rfl) (.nil _) Try.results3 (.t rfl) (AVle.refl _)
      · refine .skip <| .seq <| .seq <| .seq <| .region <| .p (mv rfl) <| .p (ar rfl) <| .nil <| .seq <| ?_
        refine T.cut (X := Int) (fun x => astrolabelaw06_IvScales_j1 a0 a1 x25 x21 x) (fun x => (mkS [(3, some (.int .i64 x)), (4, some (.ptr 0 0)), (5, some (.ptr 1 0)), (9, some (.bool x21)), (10, some (.ptr 2 0))] [(0, (.live 26 [(.bool a0.M.Neg), (slK (kInt .u32) a0.M.Mag), (.int .i64 a0.E)])), (1, (.live 26 [(.bool a1.M.Neg), (slK (kInt .u32) a1.M.Mag), (.int .i64 a1.E)])), (2, (.live 47 [(.int .i64 x25.2.1), (.int .i64 x25.2.2)]))])) ?_ ?_
        · rintro y26
          dsimp only [astrolabelaw06_IvScales_j1]
          refine .seq <| .seq <| .region <| .p (mv rfl) <| ?_
          refine TR.st 39 (.int .i64 (y26.tmod 401)) [] (snd_rem _ _ _ _ _ _ _ rfl rfl rfl rfl rfl (by decide)) rfl rfl rfl ?_
          refine .p (ar rfl) <| .p (sg rfl) <| .nil <| .seq <| .seq <| .region <| .p (la ag26 rfl) <| .p (la ag26 rfl) <| .bind fun x27 h10 => .p (c0 (astrolabelaw06_span_p h10) rfl) <| .w (al 3 ze34 rfl) <| .n (sa ag34 rfl) <| .nil <| .seq <| ?_
          refine .seq <| .draw mixed <| .p (mv rfl) <| .p (mv rfl) <| .p (la ag34 rfl) <| .p (mv rfl) <| .bind fun x28 h11 => .w (cl (iv_Calc_Scale_k h11) [2] [] [true] rfl (.p rfl <| .a kApiIv <| .i <| .nil) (.p rfl (.i <| .i <| .nil) .nil) fresh_nil (.cons (.v (.i <| .i <| .nil)) .nil) (ren_agg (K := kApiIv) _) (.turned .nil) rfl) <| .p (mv rfl) <| .p (un rfl) <| .bind fun x29 h12 => .w (cl (iv_Calc_Scale_k h12) [2] [] [true] rfl (.p rfl <| .a kApiIv <| .i <| .nil) (.p rfl (.i <| .i <| .nil) .nil) fresh_nil (.cons (.v (.i <| .i <| .nil)) .nil) (ren_agg (K := kApiIv) _) (.turned .nil) rfl) <| .p (la ag34 rfl) <| .bind fun x30 h13 => ?_
          refine .p (c0 (astrolabelaw06_same_p h13) rfl) <| .p (sg rfl) <| .nil (by kernel_rfl) <| .seq <| .seq <| .region <| .p (mv rfl) <| .p (la ag34 rfl) <| .p (la ag34 rfl) <| .bind fun x31 h14 => .w (cl (iv_Calc_Sub_k h14) [2] [] [true] rfl (.p rfl <| .a kApiIv <| .a kApiIv <| .nil) (.p rfl (.i <| .i <| .nil) .nil) fresh_nil (.cons (.v (.i <| .i <| .nil)) .nil) (ren_agg (K := kApiIv) _) (.turned .nil) rfl) <| .w (al 4 ze34 rfl) <| .n (sa ag34 rfl) <| .nil <| ?_
          refine .seq <| .seq <| .draw mixed <| .p (mv rfl) <| .p (la ag34 rfl) <| .bind fun x32 h15 => .w (cl (iv_Calc_Neg_k h15) [2] [] [true] rfl (.p rfl <| .a kApiIv <| .nil) (.p rfl (.i <| .i <| .nil) .nil) fresh_nil (.cons (.v (.i <| .i <| .nil)) .nil) (ren_agg (K := kApiIv) _) (.turned .nil) rfl) <| .p (la ag34 rfl) <| .bind fun x33 h16 => .p (c0 (astrolabelaw06_same_p h16) rfl) <| .p (sg rfl) <| .nil (by kernel_rfl) <| .seq <| .seq <| ?_
          refine .region <| .p (mv rfl) <| .p (fa 0 fl34_0 rfl) <| .p (la ag26 rfl) <| .bind fun x34 h17 => .w (cl (iv_Calc_Point_k h17) [2] [] [true] rfl (.p rfl <| .a kApiDy <| .nil) (.p rfl (.i <| .i <| .nil) .nil) fresh_nil (.cons (.v (.i <| .i <| .nil)) .nil) (ren_agg (K := kApiIv) _) (.turned .nil) rfl) <| .w (al 5 ze34 rfl) <| .n (sa ag34 rfl) <| .nil <| .seq <| .seq <| .region <| .p (fa 0 fl34_0 rfl) <| .p (la ag26 rfl) <| ?_
          refine .p (fa 3 fl34_1 rfl) <| .p (la ag26 rfl) <| .bind fun x35 h18 => .p (c0 (dyad_Cmp_p h18) rfl) <| .p (ar rfl) <| .p (sg rfl) <| .nil <| .seq <| .seq <| ?_
          refine T.cut (X := Bool) (fun x => astrolabelaw06_IvScales_j2 x) (fun x => (mkS [(8, some (.bool x))] [])) ?_ ?_
          · rintro y38
            dsimp only [astrolabelaw06_IvScales_j2]
            refine .seq <| .ret <| fin_1 (.inr rfl) (.nil _) Try.results3 (.t rfl) (AVle.refl _)
          · intro h26
            refine .region <| .p (mv rfl) <| .p (mv rfl) <| ?_
            refine TR.gd 74 _ rfl iff_b (fun h27 => ?_) (fun h27 => ?_)
            · refine .p (mv rfl) <| .p (pt rfl) <| .p (mv rfl) <| ?_
              refine TR.gd 77 _ rfl iff_b (fun h28 => ?_) (fun h28 => ?_)
              · refine .p (mv rfl) <| .p (pt rfl) <| .p (mv rfl) <| ?_
                refine TR.gd 80 _ rfl iff_b (fun h29 => ?_) (fun h29 => ?_)
                · refine .p (mv rfl) <| .p (pt rfl) <| .p (mv rfl) <| ?_
                  refine TR.gd 83 _ rfl iff_eq (fun h30 => ?_) (fun h30 => ?_)
                  · refine .p (la ag34 rfl) <| .p (bd ze26 pl26 rfl) <| .bind fun x39 h31 => .p (c0 (iv_Has_p h31) rfl) <| .p (pt rfl) <| .p (mv rfl) <| ?_
                    refine TR.gd 88 _ rfl iff_b (fun h32 => ?_) (fun h32 => ?_)
                    · refine .p (mv rfl) <| .p (nc rfl) <| .p (fa 0 fl47_0 rfl) <| .bind fun x40 h33 => .p (cl (iv_trouble_Err_k h33) [2] [] [false] rfl (.p rfl <| .nil) (.p rfl (.i <| .i <| .nil) .nil) fresh_nil (.cons (.v (.i <| .i <| .nil)) .nil) (.int _ _) (.kept rfl .nil) rfl) <| .p (ar rfl) <| .p (pt rfl) <| .p (sg rfl) <| .nil <| .weak (h26 (x40 == 0)) (jn (m := 0) [] hE (.b rfl <| .nil) .nil rfl)
                    · refine .k rfl <| .k rfl <| .k rfl <| .k rfl <| .k rfl <| .p (pf rfl) <| .p (sg rfl) <| .nil <| .weak (h26 false) (jn (m := 0) [] hE (.b rfl <| .nil) .nil rfl)
                  · refine .k rfl <| .k rfl <| .k rfl <| .p (pf rfl) <| .p (mv rfl) <| .k rfl <| .k rfl <| .k rfl <| .k rfl <| .k rfl <| .p (pf rfl) <| .p (sg rfl) <| .nil <| .weak (h26 false) (jn (m := 0) [] hE (.b rfl <| .nil) .nil rfl)
                · refine .k rfl <| .p (pf rfl) <| .p (mv rfl) <| .k rfl <| .k rfl <| .k rfl <| .p (pf rfl) <| .p (mv rfl) <| .k rfl <| .k rfl <| .k rfl <| .k rfl <| .k rfl <| .p (pf rfl) <| ?_
                  refine .p (sg rfl) <| .nil <| .weak (h26 false) (jn (m := 0) [] hE (.b rfl <| .nil) .nil rfl)
              · refine .k rfl <| .p (pf rfl) <| .p (mv rfl) <| .k rfl <| .p (pf rfl) <| .p (mv rfl) <| .k rfl <| .k rfl <| .k rfl <| .p (pf rfl) <| .p (mv rfl) <| .k rfl <| .k rfl <| .k rfl <| ?_
                refine .k rfl <| .k rfl <| .p (pf rfl) <| .p (sg rfl) <| .nil <| .weak (h26 false) (jn (m := 0) [] hE (.b rfl <| .nil) .nil rfl)
            · refine .k rfl <| .p (pf rfl) <| .p (mv rfl) <| .k rfl <| .p (pf rfl) <| .p (mv rfl) <| .k rfl <| .p (pf rfl) <| .p (mv rfl) <| .k rfl <| .k rfl <| .k rfl <| .p (pf rfl) <| .p (mv rfl) <| ?_
              refine .k rfl <| .k rfl <| .k rfl <| .k rfl <| .k rfl <| .p (pf rfl) <| .p (sg rfl) <| .nil <| .weak (h26 false) (jn (m := 0) [] hE (.b rfl <| .nil) .nil rfl)
        · intro h34
          refine T.cond_p rfl iff_dec (fun h35 h36 => ?_) (fun h35 h36 => ?_)
          · refine .region <| .p (mv rfl) <| .p (ar rfl) <| .p (un rfl) <| .p (sg rfl) <| .nil <| .weak (h34 (IntKind.i64.wrap (0 - (IntKind.i64.wrap (a3 + 1))))) (jn (m := 0) [(0, 0), (1, 1), (2, 2)] hE (.i rfl <| .p rfl rfl <| .p rfl rfl <| .b rfl <| .p rfl rfl <| .nil) (.v rfl (.b <| .l <| .i <| .nil) <| .v rfl (.b <| .l <| .i <| .nil) <| .v rfl (.i <| .i <| .nil) <| .nil) rfl)
          · refine .skip <| .weak (h34 a3) (jn (m := 0) [(0, 0), (1, 1), (2, 2)] hE (.i rfl <| .p rfl rfl <| .p rfl rfl <| .b rfl <| .p rfl rfl <| .nil) (.v rfl (.b <| .l <| .i <| .nil) <| .v rfl (.b <| .l <| .i <| .nil) <| .v rfl (.i <| .i <| .nil) <| .nil) rfl)
theorem astrolabelaw06_IvScales_p {a0 : ApiDy} {a1 : ApiDy} {a2 : Int} {a3 : Int} {r : Bool} (h : astrolabelaw06_IvScales a0 a1 a2 a3 = some r) : Pur Try.prog 3 [(.agg (kApiDy.enc a0)), (.agg (kApiDy.enc a1)), (.int .i64 a2), (.int .i64 a3)] (.bool r) := ⟨⟨_, Try.func3, nm3, rfl⟩, astrolabelaw06_IvScales_c a0 a1 a2 a3 _ h, fun _ => (.a kApiDy <| .a kApiDy <| .i <| .i <| .nil), fun _ => (.bool _)⟩

end Go.Proofs.Ytpmpcohbpankaaa.Gen
