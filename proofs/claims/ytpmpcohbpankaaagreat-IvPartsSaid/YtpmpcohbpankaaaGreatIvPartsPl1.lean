/- Plain theory of the numbers that the statement speaks of: printed from the proofs' own texts, as far as this statement needs it. -/
import Derived.Test.YtpmpcohbpankaaaGreatIvPartsPl0
namespace Go.Proofs.YtpmpcohbpankaaaGreat.Gen
open Go Go.Abs Go.Plain
theorem rCmp4_eq {x y : Int} (hx : SZ x.natAbs) (hy : SZ y.natAbs) : astrolaberef04_Cmp (iOf x) (iOf y) = some (sgc x y) := by
  have h1 := sz_len hx
  have h2 := sz_len hy
  unfold astrolaberef04_Cmp
  rw [rMake_iOf hx, rMake_iOf hy]
  simp only [obind]
  unfold astrolaberef04_Cmp_j1 astrolaberef04_Cmp_j2
  have eN : ∀ z : Int, (iOf z).Neg = decide (z < 0) := fun _ => rfl
  have eM : ∀ z : Int, (iOf z).Mag = digs z.natAbs := fun _ => rfl
  rw [eN, eN, eM, eM]
  simp only [rCmp_eq (dig_digs x.natAbs) (dig_digs y.natAbs) (by omega) (by omega), rCmp_eq (dig_digs y.natAbs) (dig_digs x.natAbs) (by omega) (by omega), dval_digs, obind]
  unfold sgc
  by_cases hxn : x < 0 <;> by_cases hyn : y < 0 <;> simp only [hxn, hyn, decide_true, decide_false, Bool.not_false, Bool.not_true, if_true, if_false, Bool.false_eq_true, not_true_eq_false, not_false_eq_true]
  · congr 1
    by_cases h : x < y
    · rw [if_pos h, if_pos (by omega)]
    · rw [if_neg h, if_neg (by omega)]
      by_cases h' : y < x
      · rw [if_pos h', if_pos (by omega)]
      · rw [if_neg h', if_neg (by omega)]
  · rw [if_pos (by omega)]
  · rw [if_neg (by omega), if_pos (by omega)]
  · congr 1
    by_cases h : x < y
    · rw [if_pos h, if_pos (by omega)]
    · rw [if_neg h, if_neg (by omega)]
      by_cases h' : y < x
      · rw [if_pos h', if_pos (by omega)]
      · rw [if_neg h', if_neg (by omega)]
theorem rup_l2 {a : ApiInt} {k : Nat} : ∀ (c v n : Nat), n ≤ 100000 * c → blen v + n ≤ k → k ≤ 1048576 → ∀ f, c < f → astrolaberef05_up_l2 a f (n : Int) (digs v) = some (iOf (sg a.Neg (v * 2 ^ n))) := by
  intro c
  induction c with
  | zero =>
    intro v n hn hv hk f hf
    obtain ⟨f, rfl⟩ : ∃ k, f = k + 1 := ⟨f - 1, by omega⟩
    have h0 : n = 0 := by omega
    subst h0
    rw [astrolaberef05_up_l2, if_neg (by omega)]
    unfold astrolaberef05_up_j1
    rw [rMake_digs _ (by unfold SZ; omega)]
    simp
  | succ c ih =>
    intro v n hn hv hk f hf
    obtain ⟨f, rfl⟩ : ∃ k, f = k + 1 := ⟨f - 1, by omega⟩
    have hl := sz_len (n := v) (by unfold SZ; omega)
    rw [astrolaberef05_up_l2]
    by_cases h : n = 0
    · subst h
      rw [if_neg (by omega)]
      unfold astrolaberef05_up_j1
      rw [rMake_digs _ (by unfold SZ; omega)]
      simp
    · rw [if_pos (by omega)]
      have hm : mn (n : Int) 100000 = ((min n 100000 : Nat) : Int) := by unfold mn; split <;> omega
      rw [hm, rShl_eq (dig_digs v) (by omega) (by omega), dval_digs]
      simp only [obind]
      rw [show (n : Int) - ((min n 100000 : Nat) : Int) = ((n - min n 100000 : Nat) : Int) by omega, w64n (by omega)]
      have hvb : blen (v * 2 ^ min n 100000) + (n - min n 100000) ≤ k := by
        by_cases h0 : v = 0
        · subst h0; rw [Nat.zero_mul, blen_zero]; omega
        · rw [blen_shl h0]; omega
      have e := ih (v * 2 ^ min n 100000) (n - min n 100000) (by omega) hvb hk f (by omega)
      rw [Nat.mul_assoc, ← Nat.pow_add, show min n 100000 + (n - min n 100000) = n by omega] at e
      exact e
theorem rup_eq {z : Int} {n : Nat} (h : blen z.natAbs + n ≤ 1048576) : astrolaberef05_up (iOf z) (n : Int) = some (iOf (z * 2 ^ n)) := by
  unfold astrolaberef05_up
  have := rup_l2 (a := iOf z) 12 z.natAbs n (by omega) h (Nat.le_refl _) fuel (by unfold fuel; omega)
  refine this.trans ?_
  congr 2
  show sg (decide (z < 0)) (z.natAbs * 2 ^ n) = _
  rw [Nat.mul_comm, sg_mul, sg_abs, Int.mul_comm]
  simp
/-- Both to the lesser exponent. -/
def liftD (x y : D) : Int × Int × Int := if x.m = 0 then (0, y.m, y.e) else if y.m = 0 then (x.m, 0, x.e) else if x.e > y.e then (x.m * 2 ^ (x.e - y.e).toNat, y.m, y.e) else (x.m, y.m * 2 ^ (y.e - x.e).toNat, x.e)
theorem rlift_eq {x y : D} (hx : WD x) (hy : WD y) : astrolaberef05_lift (dy x) (dy y) = some (iOf (liftD x y).1, iOf (liftD x y).2.1, (liftD x y).2.2) := by
  have ex := hx.e
  have ey := hy.e
  have bx := hx.2
  have b_y := hy.2
  have h1 := iOf_mag_zero x.m
  have h2 := iOf_mag_zero y.m
  have hM : ∀ d : D, (dy d).M = iOf d.m := fun _ => rfl
  have hE : ∀ d : D, (dy d).E = d.e := fun _ => rfl
  have i0 : (⟨false, []⟩ : ApiInt) = iOf 0 := by simp [iOf, digs_zero]
  unfold astrolaberef05_lift liftD
  rw [hM, hM, hE, hE]
  by_cases hx0 : x.m = 0
  · rw [if_pos (h1.2 hx0), if_pos hx0, i0]
  · rw [if_neg (fun h => hx0 (h1.1 h)), if_neg hx0]
    by_cases hy0 : y.m = 0
    · rw [if_pos (h2.2 hy0), if_pos hy0, i0]
    · rw [if_neg (fun h => hy0 (h2.1 h)), if_neg hy0]
      by_cases h : x.e > y.e
      · have hw : IntKind.i64.wrap (x.e - y.e) = ((x.e - y.e).toNat : Int) := by rw [w64] <;> omega
        rw [if_pos h, if_pos h, hw, rup_eq (by omega)]
        rfl
      · have hw : IntKind.i64.wrap (y.e - x.e) = ((y.e - x.e).toNat : Int) := by rw [w64] <;> omega
        rw [if_neg h, if_neg h, hw, rup_eq (by omega)]
        rfl
theorem lift_sz {x y : D} (hx : WD x) (hy : WD y) : blen (liftD x y).1.natAbs ≤ 524288 ∧ blen (liftD x y).2.1.natAbs ≤ 524288 ∧ -131072 ≤ (liftD x y).2.2 ∧ (liftD x y).2.2 ≤ 131072 := by
  have ex := hx.e
  have ey := hy.e
  have bx := hx.2
  have b_y := hy.2
  have b1 := blen_abs_shl x.m (x.e - y.e).toNat
  have b2 := blen_abs_shl y.m (y.e - x.e).toNat
  unfold liftD
  split
  · simp [blen_zero]; omega
  · split
    · simp [blen_zero]; omega
    · split
      · simp only; omega
      · simp only; omega
theorem val_lift (x y : D) : val x = ((liftD x y).1 : Rat) * p2 (liftD x y).2.2 ∧ val y = ((liftD x y).2.1 : Rat) * p2 (liftD x y).2.2 := by
  unfold liftD
  split
  · rename_i h; exact ⟨by rw [val_zero_m h]; simp, rfl⟩
  · split
    · rename_i h; exact ⟨rfl, by rw [val_zero_m h]; simp⟩
    · split
      · refine ⟨?_, rfl⟩
        simp only
        unfold val
        rw [p2_diff (x := x.e) (y := y.e) (by omega), Rat.intCast_mul]; grind
      · refine ⟨rfl, ?_⟩
        simp only
        unfold val
        rw [p2_diff (x := y.e) (y := x.e) (by omega), Rat.intCast_mul]; grind
theorem mul_lt_iff {a b p : Rat} (hp : 0 < p) : a * p < b * p ↔ a < b := by
  constructor
  · intro h
    by_cases h' : a < b
    · exact h'
    · have := Rat.mul_le_mul_of_nonneg_right (show b ≤ a by grind) (Rat.le_of_lt hp)
      grind
  · intro h; exact Rat.mul_lt_mul_of_pos_right h hp
theorem sgc_lift (x y : D) : sgc (liftD x y).1 (liftD x y).2.1 = cmpD x y := by
  obtain ⟨h1, h2⟩ := val_lift x y
  rw [cmpD_eq, h1, h2]
  generalize (liftD x y).1 = a
  generalize (liftD x y).2.1 = b
  have hp := p2_pos (liftD x y).2.2
  simp only [mul_lt_iff hp]
  unfold sgc
  have e1 : (a : Rat) < (b : Rat) ↔ a < b := by exact_mod_cast Iff.rfl
  have e2 : (b : Rat) < (a : Rat) ↔ b < a := by exact_mod_cast Iff.rfl
  by_cases h3 : a < b
  · rw [if_pos h3, if_pos (e1.2 h3)]
  · rw [if_neg h3, if_neg (fun h => h3 (e1.1 h))]
    by_cases h4 : b < a
    · rw [if_pos h4, if_pos (e2.2 h4)]
    · rw [if_neg h4, if_neg (fun h => h4 (e2.1 h))]
theorem cmp_sign {x y : D} (h : (x.m < 0 ↔ ¬ y.m < 0) ∨ x.m = 0 ∨ y.m = 0) : sgc x.m y.m = cmpD x y := by
  have n1 := val_neg_iff x
  have n2 := val_neg_iff y
  have p1 := val_pos_iff x
  have p2 := val_pos_iff y
  have z1 := val_zero_iff x
  have z2 := val_zero_iff y
  rw [cmpD_eq]
  unfold sgc
  rcases (show x.m < 0 ∨ x.m = 0 ∨ 0 < x.m by omega) with h1 | h1 | h1 <;> rcases (show y.m < 0 ∨ y.m = 0 ∨ 0 < y.m by omega) with h2 | h2 | h2
  · omega
  · have a1 := n1.2 h1; have a2 := z2.2 h2
    rw [if_pos (by omega), if_pos (by grind)]
  · have a1 := n1.2 h1; have a2 := p2.2 h2
    rw [if_pos (by omega), if_pos (by grind)]
  · have a1 := z1.2 h1; have a2 := n2.2 h2
    rw [if_neg (by omega), if_pos (by omega), if_neg (by grind), if_pos (by grind)]
  · have a1 := z1.2 h1; have a2 := z2.2 h2
    rw [if_neg (by omega), if_neg (by omega), if_neg (by grind), if_neg (by grind)]
  · have a1 := z1.2 h1; have a2 := p2.2 h2
    rw [if_pos (by omega), if_pos (by grind)]
  · have a1 := p1.2 h1; have a2 := n2.2 h2
    rw [if_neg (by omega), if_pos (by omega), if_neg (by grind), if_pos (by grind)]
  · have a1 := p1.2 h1; have a2 := z2.2 h2
    rw [if_neg (by omega), if_pos (by omega), if_neg (by grind), if_pos (by grind)]
  · omega
theorem rCmp5_eq {x y : D} (hx : WD x) (hy : WD y) : astrolaberef05_Cmp (dy x) (dy y) = some (cmpD x y) := by
  have ex := hx.e
  have ey := hy.e
  have bx := hx.sz
  have b_y := hy.sz
  have m1 := iOf_mag_zero x.m
  have m2 := iOf_mag_zero y.m
  have hN : ∀ d : D, (dy d).M.Neg = decide (d.m < 0) := fun _ => rfl
  have hM : ∀ d : D, (dy d).M = iOf d.m := fun _ => rfl
  unfold astrolaberef05_Cmp astrolaberef05_Cmp_j1
  rw [rRight5_dy hx.1 hx.sz, rRight5_dy hy.1 hy.sz]
  simp only [obind]
  rw [if_neg (by simp), if_neg (by simp)]
  have j2t : (x.m < 0 ↔ ¬ y.m < 0) ∨ x.m = 0 ∨ y.m = 0 → astrolaberef05_Cmp_j2 (dy x) (dy y) true = some (cmpD x y) := by
    intro h
    unfold astrolaberef05_Cmp_j2
    rw [if_pos rfl, hM, hM, rCmp4_eq bx b_y]
    simp only [obind]
    rw [cmp_sign h]
  rw [hN, hN]
  by_cases hs : decide (x.m < 0) = decide (y.m < 0)
  · rw [if_neg (by simp [hs]), hM, hM]
    by_cases h1 : x.m = 0
    · rw [if_pos (m1.2 h1)]; exact j2t (Or.inr (Or.inl h1))
    · rw [if_neg (fun h => h1 (m1.1 h))]
      by_cases h2 : y.m = 0
      · rw [show ((((iOf y.m).Mag.length : Nat) : Int) == 0) = true by rw [m2.2 h2]; rfl]; exact j2t (Or.inr (Or.inr h2))
      · rw [show ((((iOf y.m).Mag.length : Nat) : Int) == 0) = false by rw [beq_eq_false_iff_ne]; exact fun h => h2 (m2.1 h)]
        have hs' : x.m < 0 ↔ y.m < 0 := decide_eq_decide.1 hs
        unfold astrolaberef05_Cmp_j2
        rw [if_neg (by simp), rsize_eq bx (by omega), rsize_eq b_y (by omega)]
        simp only [obind]
        by_cases hz : x.e + (blen x.m.natAbs : Nat) = y.e + (blen y.m.natAbs : Nat)
        · rw [if_neg (by simpa using hz), rlift_eq hx hy]
          simp only [obind]
          obtain ⟨l1, l2, -⟩ := lift_sz hx hy
          rw [rCmp4_eq (by unfold SZ; omega) (by unfold SZ; omega)]
          simp only [obind]
          rw [sgc_lift]
        · rw [if_pos hz, hN]
          rw [cmpD_eq]
          have nn : ∀ d : D, d.m < 0 → 0 < (negD d).m := fun d h => by unfold negD; simp only; omega
          have na : ∀ d : D, (negD d).m.natAbs = d.m.natAbs := fun d => by unfold negD; simp
          have ne : ∀ d : D, (negD d).e = d.e := fun d => rfl
          rcases (show x.e + (blen x.m.natAbs : Nat) < y.e + (blen y.m.natAbs : Nat) ∨ y.e + (blen y.m.natAbs : Nat) < x.e + (blen x.m.natAbs : Nat) by omega) with hlt | hlt
          · by_cases hneg : x.m < 0
            · have hv := size_lt (x := negD x) (y := negD y) (nn _ hneg) (nn _ (hs'.1 hneg)) (by rw [na, na, ne, ne]; exact hlt)
              rw [val_neg, val_neg] at hv
              rw [if_pos (by simp [hlt, hneg]), if_neg (by grind), if_pos (by grind)]
            · have hv := size_lt (x := x) (y := y) (by omega) (by omega) hlt
              rw [if_neg (by simp [hlt]; omega), if_pos hv]
          · by_cases hneg : x.m < 0
            · have hv := size_lt (x := negD y) (y := negD x) (nn _ (hs'.1 hneg)) (nn _ hneg) (by rw [na, na, ne, ne]; exact hlt)
              rw [val_neg, val_neg] at hv
              rw [if_neg (by simp [hneg]; omega), if_pos (by grind)]
            · have hv := size_lt (x := y) (y := x) (by omega) (by omega) hlt
              rw [if_pos (by simp; omega), if_neg (by grind), if_pos hv]
  · rw [if_pos (by simpa using hs)]
    exact j2t (Or.inl (by
      by_cases h1 : x.m < 0 <;> by_cases h2 : y.m < 0 <;> simp [h1, h2] at hs ⊢))
theorem same_l3 {a b : ApiInt} (hl : a.Mag.length = b.Mag.length) (hs : a.Mag.length ≤ 1099511627776) : ∀ (r i : Nat), i + r = a.Mag.length → a.Mag.take i = b.Mag.take i → ∀ f, r < f → astrolaberef04_Same_l3 a b f (i : Int) = some (decide (a.Mag = b.Mag)) := by
  intro r
  induction r with
  | zero =>
    intro i hi ht f hf
    obtain ⟨f, rfl⟩ : ∃ k, f = k + 1 := ⟨f - 1, by omega⟩
    rw [List.take_of_length_le (by omega), List.take_of_length_le (by omega)] at ht
    rw [astrolaberef04_Same_l3, if_neg (by omega)]
    simp [astrolaberef04_Same_j2, ht]
  | succ r ih =>
    intro i hi ht f hf
    obtain ⟨f, rfl⟩ : ∃ k, f = k + 1 := ⟨f - 1, by omega⟩
    rw [astrolaberef04_Same_l3, if_pos (by omega), if_pos (by omega), if_pos (by omega), kz]
    simp only [Int.toNat_natCast]
    by_cases h : a.Mag.getD i 0 = b.Mag.getD i 0
    · rw [if_neg (by simpa using h), show (i : Int) + 1 = ((i + 1 : Nat) : Int) by omega, w64n (by omega)]
      refine ih (i + 1) (by omega) ?_ f (by omega)
      rw [List.take_succ_eq_append_getElem (by omega), List.take_succ_eq_append_getElem (by omega), ht]
      rw [List.getD_eq_getElem?_getD, List.getD_eq_getElem?_getD, List.getElem?_eq_getElem (show i < a.Mag.length by omega), List.getElem?_eq_getElem (show i < b.Mag.length by omega), Option.getD_some, Option.getD_some] at h
      rw [h]
    · rw [if_pos h]
      congr 1; symm; apply decide_eq_false
      intro he; rw [he] at h; exact h rfl
theorem iOf_inj {x y : Int} (h : iOf x = iOf y) : x = y := by
  have h1 : sg (iOf x).Neg (dval (iOf x).Mag) = x := by unfold iOf; simp only; rw [dval_digs, sg_abs]
  have h2 : sg (iOf y).Neg (dval (iOf y).Mag) = y := by unfold iOf; simp only; rw [dval_digs, sg_abs]
  rw [← h1, ← h2, h]
theorem same4_eq {x y : Int} (hx : SZ x.natAbs) : astrolaberef04_Same (iOf x) (iOf y) = some (decide (x = y)) := by
  have h1 := sz_len hx
  unfold astrolaberef04_Same astrolaberef04_Same_j1
  by_cases hn : (iOf x).Neg = (iOf y).Neg
  · rw [if_neg (by simp [hn])]
    by_cases hl : (iOf x).Mag.length = (iOf y).Mag.length
    · have hlen : (iOf x).Mag.length = (digs x.natAbs).length := rfl
      have e := same_l3 hl (by omega) (iOf x).Mag.length 0 (by omega) (by simp) fuel (by unfold fuel; omega)
      rw [if_neg (by simp [hl])]
      refine e.trans ?_
      congr 1
      apply decide_eq_decide.2
      constructor
      · intro h
        apply iOf_inj
        have : ∀ a b : ApiInt, a.Neg = b.Neg → a.Mag = b.Mag → a = b := fun a b h1 h2 => by cases a; cases b; simp only at h1 h2; rw [h1, h2]
        exact this _ _ hn h
      · rintro rfl; rfl
    · rw [if_pos (by simp; omega)]
      congr 1; symm; apply decide_eq_false
      rintro rfl; exact hl rfl
  · rw [if_pos (by simpa using hn), if_pos rfl]
    congr 1; symm; apply decide_eq_false
    rintro rfl; exact hn rfl
theorem same5_eq {x y : D} (hx : SZ x.m.natAbs) : astrolaberef05_Same (dy x) (dy y) = some (decide (x = y)) := by
  unfold astrolaberef05_Same astrolaberef05_Same_j1
  have hM : ∀ d : D, (dy d).M = iOf d.m := fun _ => rfl
  have hE : ∀ d : D, (dy d).E = d.e := fun _ => rfl
  rw [hM, hM, hE, hE, same4_eq hx]
  have ext : x = y ↔ x.m = y.m ∧ x.e = y.e := by
    constructor
    · rintro rfl; exact ⟨rfl, rfl⟩
    · intro h; cases x; cases y; simp only at h; rw [h.1, h.2]
  by_cases h : x.e = y.e
  · rw [if_pos h]
    simp only [obind]
    congr 1
    apply decide_eq_decide.2
    rw [ext]; simp [h]
  · rw [if_neg h]
    congr 1; symm; apply decide_eq_false
    rintro rfl; exact h rfl
structure I where
  lo : D
  hi : D
def zI : I := ⟨zD, zD⟩
def iv (a : I) : ApiIv := ⟨dy a.lo, dy a.hi⟩
/-- A stretch that is right. -/
def okI (a : I) : Prop := WD a.lo ∧ WD a.hi ∧ val a.lo ≤ val a.hi
theorem iv_z : iv zI = ⟨⟨⟨false, []⟩, 0⟩, ⟨⟨false, []⟩, 0⟩⟩ := by unfold iv zI; simp only [dy_z]
theorem okI_z : okI zI := ⟨WD_z, WD_z, Rat.le_refl⟩
theorem etaDy (x : ApiDy) : (⟨x.M, x.E⟩ : ApiDy) = x := rfl
theorem etaIv (x : ApiIv) : (⟨⟨x.Lo.M, x.Lo.E⟩, ⟨x.Hi.M, x.Hi.E⟩⟩ : ApiIv) = x := rfl
theorem ivLo (a : I) : (iv a).Lo = dy a.lo := rfl
theorem ivHi (a : I) : (iv a).Hi = dy a.hi := rfl
/-- The first error stays. -/
def bindE {α : Type} (r : D × Int) (z : α) (f : D → α × Int) : α × Int := if r.2 = 0 then f r.1 else (z, r.2)
/-- If there was an error, nothing is done. -/
def st {α : Type} (e : Int) (z : α) (r : α × Int) : α × Int := if e = 0 then r else (z, e)
theorem ivRight_eq {a : I} (h : okI a) : iv_Right (iv a) = some true := by
  obtain ⟨h1, h2, h3⟩ := h
  unfold iv_Right iv_Right_j1
  rw [ivLo, ivHi, dyad_Right_dy h1.1 h1.sz]
  simp only [obind, if_true]
  rw [dyad_Right_dy h2.1 h2.sz]
  simp only [obind, if_true]
  rw [dyad_Cmp_eq h1 h2]
  simp only [obind]
  congr 1
  exact decide_eq_true ((cmpD_le _ _).2 h3)
def hasI (a : I) (x : D) : Bool := decide (cmpD a.lo x ≤ 0) && decide (cmpD x a.hi ≤ 0)
theorem hasI_iff (a : I) (x : D) : hasI a x = true ↔ val a.lo ≤ val x ∧ val x ≤ val a.hi := by
  unfold hasI
  rw [Bool.and_eq_true, decide_eq_true_iff, decide_eq_true_iff, cmpD_le, cmpD_le]
theorem ivHas_eq {a : I} (h : okI a) {x : D} (hx : WD x) : iv_Has (iv a) (dy x) = some (hasI a x) := by
  unfold iv_Has iv_Has_j1
  rw [ivRight_eq h]
  simp only [obind, if_true]
  rw [dyad_Right_dy hx.1 hx.sz]
  simp only [obind, if_true]
  rw [ivLo, ivHi, dyad_Cmp_eq h.1 hx, dyad_Cmp_eq hx h.2.1]
  simp only [obind]
  unfold hasI
  by_cases h1 : cmpD a.lo x ≤ 0
  · rw [if_pos h1, decide_eq_true h1, Bool.true_and]
  · rw [if_neg h1, decide_eq_false h1, Bool.false_and]
def inI (a b : I) : Bool := hasI b a.lo && hasI b a.hi
theorem ivIn_eq {a b : I} (ha : okI a) (hb : okI b) : iv_In (iv a) (iv b) = some (inI a b) := by
  unfold iv_In iv_In_j1
  rw [ivRight_eq ha]
  simp only [obind, if_true]
  rw [ivLo, ivHi, ivHas_eq hb ha.1, ivHas_eq hb ha.2.1]
  simp only [obind]
  unfold inI
  cases hasI b a.lo <;> simp
theorem note_eq (x e p : Int) : iv_trouble_note x e p = some (if e = 0 then (x == 0, x) else (false, e)) := by
  unfold iv_trouble_note iv_trouble_note_j1
  by_cases h : e = 0
  · rw [if_pos h, if_pos h]
  · rw [if_neg h, if_neg h]
    have : (e == 0) = false := by simpa using h
    rw [this]
theorem fine_nil (l : List ApiIv) (p e : Int) (i n : Nat) (hi : l.length ≤ i) : iv_Calc_fine_l2 l p (n + 1) (i : Int) e = some (e == 0, e) := by
  rw [iv_Calc_fine_l2, if_neg (by omega)]; rfl
theorem fine_cons (l : List ApiIv) (p e : Int) (i n : Nat) (hi : i < l.length) (hi' : i ≤ 1000) (hr : iv_Right (l.getD i zApiIv) = some true) : iv_Calc_fine_l2 l p (n + 1) (i : Int) e = iv_Calc_fine_l2 l p n ((i + 1 : Nat) : Int) e := by
  rw [iv_Calc_fine_l2, if_pos (by omega), if_pos (by omega)]
  simp only [Int.toNat_natCast, etaIv]
  rw [hr]
  simp only [obind]
  rw [if_neg (by simp)]
  unfold iv_Calc_fine_j3
  rw [if_neg (by simp), show ((i : Int) + 1) = ((i + 1 : Nat) : Int) by omega, w64n (by omega)]
theorem fine_one {a : I} (ha : okI a) (e p : Int) : iv_Calc_fine [iv a] e p = some (e == 0, e) := by
  unfold iv_Calc_fine
  obtain ⟨f, hf⟩ := fuel_succ
  rw [hf]
  exact (fine_cons [iv a] p e 0 (f + 1 + 1) (by simp) (by omega) (ivRight_eq ha)).trans (fine_nil [iv a] p e 1 (f + 1) (by simp))
theorem fine_two {a b : I} (ha : okI a) (hb : okI b) (e p : Int) : iv_Calc_fine [iv a, iv b] e p = some (e == 0, e) := by
  unfold iv_Calc_fine
  obtain ⟨f, hf⟩ := fuel_succ
  rw [hf]
  exact (fine_cons [iv a, iv b] p e 0 (f + 1 + 1) (by simp) (by omega) (ivRight_eq ha)).trans ((fine_cons [iv a, iv b] p e 1 (f + 1) (by simp) (by omega) (ivRight_eq hb)).trans (fine_nil [iv a, iv b] p e 2 f (by simp)))
theorem take_eq (x : D) (y e p : Int) : iv_Calc_take (dy x) y e p = some (if e = 0 then (if y = 0 then (dy x, 0) else (dy zD, y)) else (dy zD, e)) := by
  unfold iv_Calc_take
  rw [note_eq, dy_z]
  simp only [obind]
  by_cases h : e = 0
  · rw [if_pos h, if_pos h]
    by_cases h2 : y = 0
    · rw [if_pos h2, h2]; rfl
    · rw [if_neg h2, if_pos (by simpa using h2)]
  · rw [if_neg h, if_neg h]; rfl
theorem sumE_eq {x y : D} (hx : WD x) (hy : WD y) (e p : Int) : iv_Calc_sum (dy x) (dy y) e p = some (dy (st e zD (bindE (addD x y) zD fun s => (s, 0))).1, (st e zD (bindE (addD x y) zD fun s => (s, 0))).2) := by
  unfold iv_Calc_sum st bindE
  by_cases h : e = 0
  · rw [if_neg (by simpa using h), if_pos h, dyad_Add_eq hx hy]
    simp only [obind]
    rw [take_eq, if_pos h]
    simp only [obind]
    by_cases h2 : (addD x y).2 = 0
    · rw [if_pos h2, if_pos h2]
    · rw [if_neg h2, if_neg h2]
  · rw [if_pos h, if_neg h, dy_z]
theorem downE_eq {x : D} (hx : WD x) {p : Nat} (hp : 2 ≤ p ∧ p ≤ 400) (e : Int) : iv_Calc_down (dy x) e (p : Int) = some (dy (st e zD (bindE (roundD x p false) zD fun s => (s, 0))).1, (st e zD (bindE (roundD x p false) zD fun s => (s, 0))).2) := by
  unfold iv_Calc_down st bindE
  by_cases h : e = 0
  · rw [if_neg (by simpa using h), if_pos h, dyad_Round_eq hx hp]
    simp only [obind]
    rw [take_eq, if_pos h]
    simp only [obind]
    by_cases h2 : (roundD x p false).2 = 0
    · rw [if_pos h2, if_pos h2]
    · rw [if_neg h2, if_neg h2]
  · rw [if_pos h, if_neg h, dy_z]
theorem upE_eq {x : D} (hx : WD x) {p : Nat} (hp : 2 ≤ p ∧ p ≤ 400) (e : Int) : iv_Calc_up (dy x) e (p : Int) = some (dy (st e zD (bindE (roundD x p true) zD fun s => (s, 0))).1, (st e zD (bindE (roundD x p true) zD fun s => (s, 0))).2) := by
  unfold iv_Calc_up st bindE
  by_cases h : e = 0
  · rw [if_neg (by simpa using h), if_pos h, dyad_Round_eq hx hp]
    simp only [obind]
    rw [take_eq, if_pos h]
    simp only [obind]
    by_cases h2 : (roundD x p true).2 = 0
    · rw [if_pos h2, if_pos h2]
    · rw [if_neg h2, if_neg h2]
  · rw [if_pos h, if_neg h, dy_z]
theorem outE_eq (x y : D) (e p : Int) : iv_Calc_out (dy x) (dy y) e p = some (iv (if e = 0 then ⟨x, y⟩ else zI)) := by
  unfold iv_Calc_out
  by_cases h : e = 0
  · rw [if_neg (by simpa using h), if_pos h]; rfl
  · rw [if_pos h, if_neg h, iv_z]
def addI (p : Nat) (a b : I) : I × Int := bindE (addD a.lo b.lo) zI fun s => bindE (roundD s p false) zI fun lo => bindE (addD a.hi b.hi) zI fun t => bindE (roundD t p true) zI fun hi => (⟨lo, hi⟩, 0)
theorem WD_bind {r : D × Int} (h : WD r.1) (e : Int) : WD (st e zD (bindE r zD fun s => (s, 0))).1 := by
  unfold st bindE
  split
  · split
    · exact h
    · exact WD_z
  · exact WD_z
theorem st_ne {α : Type} {e : Int} (h : e ≠ 0) (z : α) (r : α × Int) : st e z r = (z, e) := by unfold st; rw [if_neg h]
theorem st_zero {α : Type} (z : α) (r : α × Int) : st 0 z r = r := by unfold st; rw [if_pos rfl]
theorem fine_no {e : Int} (h : e ≠ 0) : ¬ (e == 0) = true := by simpa using h
theorem bindE_ok {α : Type} {r : D × Int} (h : r.2 = 0) (z : α) (f : D → α × Int) : bindE r z f = f r.1 := by unfold bindE; rw [if_pos h]
theorem bindE_no {α : Type} {r : D × Int} (h : r.2 ≠ 0) (z : α) (f : D → α × Int) : bindE r z f = (z, r.2) := by unfold bindE; rw [if_neg h]
theorem ivAdd_eq {a b : I} (ha : okI a) (hb : okI b) {p : Nat} (hp : 2 ≤ p ∧ p ≤ 400) (e : Int) : iv_Calc_Add (iv a) (iv b) e (p : Int) = some (iv (st e zI (addI p a b)).1, (st e zI (addI p a b)).2) := by
  unfold iv_Calc_Add
  rw [fine_two ha hb]
  simp only [obind]
  by_cases h : e = 0
  · subst h
    rw [if_neg (by simp), ivLo, ivLo, ivHi, ivHi, st_zero, sumE_eq ha.1 hb.1, st_zero]
    simp only [obind]
    rw [downE_eq (x := (bindE (addD a.lo b.lo) zD fun s => (s, 0)).1) (by
      have := WD_bind (WD_add ha.1 hb.1) 0; rwa [st_zero] at this) hp]
    simp only [obind]
    unfold addI
    by_cases h1 : (addD a.lo b.lo).2 = 0
    · rw [bindE_ok h1, bindE_ok h1, st_zero]
      by_cases h2 : (roundD (addD a.lo b.lo).1 p false).2 = 0
      · rw [bindE_ok h2, bindE_ok h2, sumE_eq ha.2.1 hb.2.1, st_zero]
        simp only [obind]
        rw [upE_eq (x := (bindE (addD a.hi b.hi) zD fun s => (s, 0)).1) (by
          have := WD_bind (WD_add ha.2.1 hb.2.1) 0; rwa [st_zero] at this) hp]
        simp only [obind]
        by_cases h3 : (addD a.hi b.hi).2 = 0
        · rw [bindE_ok h3, bindE_ok h3, st_zero]
          by_cases h4 : (roundD (addD a.hi b.hi).1 p true).2 = 0
          · rw [bindE_ok h4, bindE_ok h4, outE_eq]
            simp only [obind]
            rfl
          · rw [bindE_no h4, bindE_no h4, outE_eq]
            simp only [obind]
            rw [if_neg h4]
        · rw [bindE_no h3, bindE_no h3, st_ne h3, outE_eq]
          simp only [obind]
          rw [if_neg h3]
      · rw [bindE_no h2, bindE_no h2, sumE_eq ha.2.1 hb.2.1, st_ne h2]
        simp only [obind]
        rw [upE_eq WD_z hp, st_ne h2]
        simp only [obind]
        rw [outE_eq]
        simp only [obind]
        rw [if_neg h2]
    · rw [bindE_no h1, bindE_no h1, st_ne h1, sumE_eq ha.2.1 hb.2.1, st_ne h1]
      simp only [obind]
      rw [upE_eq WD_z hp, st_ne h1]
      simp only [obind]
      rw [outE_eq]
      simp only [obind]
      rw [if_neg h1]
  · rw [if_pos (fine_no h), st_ne h, iv_z]
theorem okI_point {x : D} (h : WD x) : okI ⟨x, x⟩ := ⟨h, h, Rat.le_refl⟩
theorem ivPoint_eq {x : D} (hx : WD x) (e p : Int) : iv_Calc_Point (dy x) e p = some (iv (st e zI (⟨x, x⟩, 0)).1, (st e zI ((⟨x, x⟩ : I), 0)).2) := by
  unfold iv_Calc_Point
  have : (⟨dy x, dy x⟩ : ApiIv) = iv ⟨x, x⟩ := rfl
  rw [this, fine_one (okI_point hx)]
  simp only [obind]
  by_cases h : e = 0
  · subst h; rw [if_neg (by simp), st_zero]
  · rw [if_pos (fine_no h), st_ne h, iv_z]
def intI (n : Int) : I := ⟨fromD n, fromD n⟩
theorem ivInt_eq {n : Int} (hn : -9223372036854775808 ≤ n ∧ n ≤ 9223372036854775807) (e p : Int) : iv_Calc_Int n e p = some (iv (st e zI (intI n, 0)).1, (st e zI (intI n, 0)).2) := by
  unfold iv_Calc_Int
  rw [dyad_From_eq hn]
  simp only [obind]
  rw [ivPoint_eq (WD_from hn)]
  simp only [obind]
  rfl
def negI (a : I) : I := ⟨negD a.hi, negD a.lo⟩
theorem okI_neg {a : I} (h : okI a) : okI (negI a) := by
  refine ⟨h.2.1.neg, h.1.neg, ?_⟩
  show val (negD a.hi) ≤ val (negD a.lo)
  rw [val_neg, val_neg]
  have := h.2.2
  grind
theorem ivNeg_eq {a : I} (h : okI a) (e p : Int) : iv_Calc_Neg (iv a) e p = some (iv (st e zI (negI a, 0)).1, (st e zI (negI a, 0)).2) := by
  unfold iv_Calc_Neg
  rw [fine_one h]
  simp only [obind]
  by_cases h0 : e = 0
  · subst h0
    rw [if_neg (by simp), st_zero, ivLo, ivHi, dyad_Neg_eq h.1, dyad_Neg_eq h.2.1]
    simp only [obind]
    rfl
  · rw [if_pos (fine_no h0), st_ne h0, iv_z]
/-- The least, the greatest of some. -/
def minD (m x : D) : D := if cmpD x m < 0 then x else m
def maxD (m x : D) : D := if 0 < cmpD x m then x else m
theorem minD_val (m x : D) : (minD m x = m ∧ val m ≤ val x) ∨ (minD m x = x ∧ val x < val m) := by
  unfold minD
  by_cases h : cmpD x m < 0
  · rw [if_pos h]; right; exact ⟨rfl, (cmpD_lt _ _).1 h⟩
  · rw [if_neg h]; left
    have := mt (cmpD_lt x m).2 h
    exact ⟨rfl, by grind⟩
theorem maxD_val (m x : D) : (maxD m x = m ∧ val x ≤ val m) ∨ (maxD m x = x ∧ val m < val x) := by
  unfold maxD
  by_cases h : 0 < cmpD x m
  · rw [if_pos h]; right; exact ⟨rfl, (cmpD_gt _ _).1 h⟩
  · rw [if_neg h]; left
    have := mt (cmpD_gt x m).2 h
    exact ⟨rfl, by grind⟩
theorem minD_WD {m x : D} (hm : WD m) (hx : WD x) : WD (minD m x) := by unfold minD; split <;> assumption
theorem maxD_WD {m x : D} (hm : WD m) (hx : WD x) : WD (maxD m x) := by unfold maxD; split <;> assumption
theorem map_getD (l : List D) (i : Nat) (h : i < l.length) : (l.map dy).getD i zApiDy = dy (l.getD i zD) := by
  simp [List.getD, List.getElem?_map, List.getElem?_eq_getElem h]
theorem ends_loop (x : D) (l : List D) (hl : ∀ y ∈ l, WD y) (hlen : l.length ≤ 1000) : ∀ (r i : Nat) (m M : D), i + r = l.length → WD m → WD M → ∀ f, r < f →
    iv_ends_l2 ((x :: l).map dy) f (i : Int) (dy m).M.Neg (dy m).M.Mag (dy m).E (dy M).M.Neg (dy M).M.Mag (dy M).E = some (dy ((l.drop i).foldl minD m), dy ((l.drop i).foldl maxD M)) := by
  have hdrop : (((x :: l).map dy).take ((x :: l).map dy).length).drop 1 = l.map dy := by
    rw [List.take_length]; simp
  intro r
  induction r with
  | zero =>
    intro i m M hi hm hM f hf
    obtain ⟨f, rfl⟩ : ∃ k, f = k + 1 := ⟨f - 1, by omega⟩
    rw [iv_ends_l2, hdrop, if_neg (by rw [List.length_map]; omega), List.drop_eq_nil_of_le (by omega)]
    rfl
  | succ r ih =>
    intro i m M hi hm hM f hf
    obtain ⟨f, rfl⟩ : ∃ k, f = k + 1 := ⟨f - 1, by omega⟩
    have hin : i < l.length := by omega
    have hmem : l.getD i zD ∈ l := by
      rw [List.getD_eq_getElem?_getD, List.getElem?_eq_getElem hin]; exact List.getElem_mem hin
    have hW := hl _ hmem
    have hdc : l.drop i = l.getD i zD :: l.drop (i + 1) := by
      rw [List.drop_eq_getElem_cons hin, List.getD_eq_getElem?_getD, List.getElem?_eq_getElem hin]; rfl
    have hw : IntKind.i64.wrap ((i : Int) + 1) = ((i + 1 : Nat) : Int) := by rw [w64] <;> omega
    rw [iv_ends_l2]
    unfold iv_ends_j3 iv_ends_j4
    simp only [hdrop, hw]
    rw [if_pos (by rw [List.length_map]; omega), if_pos (by rw [List.length_map]; omega), Int.toNat_natCast, map_getD l i hin]
    generalize hg : l.getD i zD = y at *
    have e1 : ∀ d : D, (⟨⟨(dy d).M.Neg, (dy d).M.Mag⟩, (dy d).E⟩ : ApiDy) = dy d := fun _ => rfl
    simp only [etaDy, e1]
    rw [dyad_Cmp_eq hW hm]
    simp only [obind]
    rw [dyad_Cmp_eq hW hM]
    simp only [obind]
    rw [hdc, List.foldl_cons, List.foldl_cons]
    have hmin : minD m y = if cmpD y m < 0 then y else m := rfl
    have hmax : maxD M y = if 0 < cmpD y M then y else M := rfl
    by_cases h1 : cmpD y m < 0
    · rw [if_pos h1]
      by_cases h2 : 0 < cmpD y M
      · rw [if_pos h2, hmin, hmax, if_pos h1, if_pos h2]
        exact ih (i + 1) y y (by omega) hW hW f (by omega)
      · rw [if_neg h2, hmin, hmax, if_pos h1, if_neg h2]
        exact ih (i + 1) y M (by omega) hW hM f (by omega)
    · rw [if_neg h1]
      by_cases h2 : 0 < cmpD y M
      · rw [if_pos h2, hmin, hmax, if_neg h1, if_pos h2]
        exact ih (i + 1) m y (by omega) hm hW f (by omega)
      · rw [if_neg h2, hmin, hmax, if_neg h1, if_neg h2]
        exact ih (i + 1) m M (by omega) hm hM f (by omega)
theorem ends_eq (x : D) (l : List D) (hx : WD x) (hl : ∀ y ∈ l, WD y) (hlen : l.length ≤ 1000) : iv_ends ((x :: l).map dy) = some (dy (l.foldl minD x), dy (l.foldl maxD x)) := by
  unfold iv_ends
  have hlen2 : ((x :: l).map dy).length = l.length + 1 := by simp
  rw [if_pos (by omega), if_pos (by omega), if_pos (by omega)]
  have h0 : ((x :: l).map dy).getD 0 zApiDy = dy x := rfl
  rw [h0]
  exact ends_loop x l hl hlen l.length 0 x x (by omega) hx hx fuel (by unfold fuel; omega)
theorem WD_foldmin : ∀ (l : List D) (x : D), WD x → (∀ y ∈ l, WD y) → WD (l.foldl minD x)
  | [], _, hx, _ => hx
  | y :: l, x, hx, hl => WD_foldmin l (minD x y) (minD_WD hx (hl y List.mem_cons_self)) fun z hz => hl z (List.mem_cons_of_mem _ hz)
theorem WD_foldmax : ∀ (l : List D) (x : D), WD x → (∀ y ∈ l, WD y) → WD (l.foldl maxD x)
  | [], _, hx, _ => hx
  | y :: l, x, hx, hl => WD_foldmax l (maxD x y) (maxD_WD hx (hl y List.mem_cons_self)) fun z hz => hl z (List.mem_cons_of_mem _ hz)
def outI (p : Nat) (a : I) : I × Int := bindE (roundD a.lo p false) zI fun lo => bindE (roundD a.hi p true) zI fun hi => (⟨lo, hi⟩, 0)
def wideI (p : Nat) (a : I) (d : D) : I × Int := bindE (addD a.lo (negD d)) zI fun s => bindE (roundD s p false) zI fun lo => bindE (addD a.hi d) zI fun t => bindE (roundD t p true) zI fun hi => (⟨lo, hi⟩, 0)
def meetI (a b : I) : I × Int := if 0 < cmpD (maxD a.lo b.lo) (minD a.hi b.hi) then (zI, 5) else (⟨maxD a.lo b.lo, minD a.hi b.hi⟩, 0)
theorem ivOut_eq {a : I} (ha : okI a) {p : Nat} (hp : 2 ≤ p ∧ p ≤ 400) (e : Int) : iv_Calc_Out (iv a) e (p : Int) = some (iv (st e zI (outI p a)).1, (st e zI (outI p a)).2) := by
  unfold iv_Calc_Out
  rw [fine_one ha]
  simp only [obind]
  by_cases h : e = 0
  · subst h
    rw [if_neg (by simp), ivLo, ivHi, st_zero, downE_eq ha.1 hp, st_zero]
    simp only [obind]
    rw [upE_eq ha.2.1 hp]
    simp only [obind]
    unfold outI
    by_cases h1 : (roundD a.lo p false).2 = 0
    · rw [bindE_ok h1, bindE_ok h1, st_zero]
      by_cases h2 : (roundD a.hi p true).2 = 0
      · rw [bindE_ok h2, bindE_ok h2, outE_eq]
        simp only [obind]
        rfl
      · rw [bindE_no h2, bindE_no h2, outE_eq]
        simp only [obind]
        rw [if_neg h2]
    · rw [bindE_no h1, bindE_no h1, st_ne h1, outE_eq]
      simp only [obind]
      rw [if_neg h1]
  · rw [if_pos (fine_no h), st_ne h, iv_z]
theorem ivWide_eq {a : I} (ha : okI a) {d : D} (hd : WD d) (hd0 : 0 ≤ val d) {p : Nat} (hp : 2 ≤ p ∧ p ≤ 400) (e : Int) : iv_Calc_Wide (iv a) (dy d) e (p : Int) = some (iv (st e zI (wideI p a d)).1, (st e zI (wideI p a d)).2) := by
  unfold iv_Calc_Wide
  have hz : (⟨⟨⟨false, []⟩, 0⟩, dy d⟩ : ApiIv) = iv ⟨zD, d⟩ := by unfold iv; simp only [dy_z]
  have hok : okI ⟨zD, d⟩ := ⟨WD_z, hd, by show val zD ≤ val d; rw [val_z]; exact hd0⟩
  rw [hz, fine_two ha hok]
  simp only [obind]
  by_cases h : e = 0
  · subst h
    rw [if_neg (by simp), dyad_Neg_eq hd]
    simp only [obind]
    rw [ivLo, ivHi, st_zero, sumE_eq ha.1 hd.neg, st_zero]
    simp only [obind]
    rw [downE_eq (x := (bindE (addD a.lo (negD d)) zD fun s => (s, 0)).1) (by
      have := WD_bind (WD_add ha.1 hd.neg) 0; rwa [st_zero] at this) hp]
    simp only [obind]
    unfold wideI
    by_cases h1 : (addD a.lo (negD d)).2 = 0
    · rw [bindE_ok h1, bindE_ok h1, st_zero]
      by_cases h2 : (roundD (addD a.lo (negD d)).1 p false).2 = 0
      · rw [bindE_ok h2, bindE_ok h2, sumE_eq ha.2.1 hd, st_zero]
        simp only [obind]
        rw [upE_eq (x := (bindE (addD a.hi d) zD fun s => (s, 0)).1) (by
          have := WD_bind (WD_add ha.2.1 hd) 0; rwa [st_zero] at this) hp]
        simp only [obind]
        by_cases h3 : (addD a.hi d).2 = 0
        · rw [bindE_ok h3, bindE_ok h3, st_zero]
          by_cases h4 : (roundD (addD a.hi d).1 p true).2 = 0
          · rw [bindE_ok h4, bindE_ok h4, outE_eq]
            simp only [obind]
            rfl
          · rw [bindE_no h4, bindE_no h4, outE_eq]
            simp only [obind]
            rw [if_neg h4]
        · rw [bindE_no h3, bindE_no h3, st_ne h3, outE_eq]
          simp only [obind]
          rw [if_neg h3]
      · rw [bindE_no h2, bindE_no h2, sumE_eq ha.2.1 hd, st_ne h2]
        simp only [obind]
        rw [upE_eq WD_z hp, st_ne h2]
        simp only [obind]
        rw [outE_eq]
        simp only [obind]
        rw [if_neg h2]
    · rw [bindE_no h1, bindE_no h1, st_ne h1, sumE_eq ha.2.1 hd, st_ne h1]
      simp only [obind]
      rw [upE_eq WD_z hp, st_ne h1]
      simp only [obind]
      rw [outE_eq]
      simp only [obind]
      rw [if_neg h1]
  · rw [if_pos (fine_no h), st_ne h, iv_z]
theorem ivMeet_eq {a b : I} (ha : okI a) (hb : okI b) (e p : Int) : iv_Calc_Meet (iv a) (iv b) e p = some (iv (st e zI (meetI a b)).1, (st e zI (meetI a b)).2) := by
  unfold iv_Calc_Meet
  rw [fine_two ha hb]
  simp only [obind]
  by_cases h : e = 0
  · subst h
    rw [if_neg (by simp), st_zero, ivLo, ivLo, ivHi, ivHi]
    have e1 := ends_eq a.lo [b.lo] ha.1 (by intro y hy; have : y = b.lo := by simpa using hy
                                            subst this; exact hb.1) (by simp)
    have e2 := ends_eq a.hi [b.hi] ha.2.1 (by intro y hy; have : y = b.hi := by simpa using hy
                                              subst this; exact hb.2.1) (by simp)
    simp only [List.map_cons, List.map_nil, List.foldl_cons, List.foldl_nil] at e1 e2
    rw [e1, e2]
    simp only [obind]
    rw [dyad_Cmp_eq (maxD_WD ha.1 hb.1) (minD_WD ha.2.1 hb.2.1)]
    simp only [obind]
    unfold meetI
    by_cases h1 : 0 < cmpD (maxD a.lo b.lo) (minD a.hi b.hi)
    · rw [if_pos h1, if_pos h1, note_eq]
      simp only [obind]
      rw [iv_z]; rfl
    · rw [if_neg h1, if_neg h1]; rfl
  · rw [if_pos (fine_no h), st_ne h, iv_z]
def stepF (f : D → D → D × Int) (x : D) (s : Int × List D) (y : D) : Int × List D :=
  if s.1 = 0 then (if (f x y).2 = 0 then (0, s.2 ++ [(f x y).1]) else ((f x y).2, s.2 ++ [zD])) else (s.1, s.2 ++ [zD])
def rowF (f : D → D → D × Int) (ys : List D) (s : Int × List D) (x : D) : Int × List D := ys.foldl (stepF f x) s
def fourF (f : D → D → D × Int) (xs ys : List D) : Int × List D := xs.foldl (rowF f ys) (0, [])
theorem step_len (f : D → D → D × Int) (x : D) (s : Int × List D) (y : D) : (stepF f x s y).2.length = s.2.length + 1 := by
  unfold stepF
  split
  · split <;> simp
  · simp
theorem fold_len (f : D → D → D × Int) (x : D) : ∀ (ys : List D) (s : Int × List D), (ys.foldl (stepF f x) s).2.length = s.2.length + ys.length
  | [], s => by simp
  | y :: ys, s => by rw [List.foldl_cons, fold_len f x ys, step_len, List.length_cons]; omega
theorem step_WD {f : D → D → D × Int} (hf : ∀ x y, WD x → WD y → WD (f x y).1) {x y : D} (hx : WD x) (hy : WD y) {s : Int × List D} (hs : ∀ z ∈ s.2, WD z) : ∀ z ∈ (stepF f x s y).2, WD z := by
  unfold stepF
  split
  · split
    · intro z hz
      rcases List.mem_append.1 hz with h | h
      · exact hs z h
      · have : z = (f x y).1 := by simpa using h
        subst this; exact hf x y hx hy
    · intro z hz
      rcases List.mem_append.1 hz with h | h
      · exact hs z h
      · have : z = zD := by simpa using h
        subst this; exact WD_z
  · intro z hz
    rcases List.mem_append.1 hz with h | h
    · exact hs z h
    · have : z = zD := by simpa using h
      subst this; exact WD_z
theorem row_WD {f : D → D → D × Int} (hf : ∀ x y, WD x → WD y → WD (f x y).1) {x : D} (hx : WD x) : ∀ (ys : List D) (_ : ∀ y ∈ ys, WD y) (s : Int × List D) (_ : ∀ z ∈ s.2, WD z), ∀ z ∈ (ys.foldl (stepF f x) s).2, WD z
  | [], _, s, hs => hs
  | y :: ys, hys, s, hs => by
    rw [List.foldl_cons]
    exact row_WD hf hx ys (fun z hz => hys z (List.mem_cons_of_mem _ hz)) _ (step_WD hf hx (hys y List.mem_cons_self) hs)
theorem four_WD {f : D → D → D × Int} (hf : ∀ x y, WD x → WD y → WD (f x y).1) {ys : List D} (hys : ∀ y ∈ ys, WD y) : ∀ (xs : List D) (_ : ∀ x ∈ xs, WD x) (s : Int × List D) (_ : ∀ z ∈ s.2, WD z), ∀ z ∈ (xs.foldl (rowF f ys) s).2, WD z
  | [], _, s, hs => hs
  | x :: xs, hxs, s, hs => by
    rw [List.foldl_cons]
    exact four_WD hf hys xs (fun z hz => hxs z (List.mem_cons_of_mem _ hz)) _ (row_WD hf (hxs x List.mem_cons_self) ys hys s hs)
theorem getD_mem {l : List D} {i : Nat} (h : i < l.length) : l.getD i zD ∈ l := by
  rw [List.getD_eq_getElem?_getD, List.getElem?_eq_getElem h]; exact List.getElem_mem h
theorem drop_getD {l : List D} {i : Nat} (h : i < l.length) : l.drop i = l.getD i zD :: l.drop (i + 1) := by
  rw [List.drop_eq_getElem_cons h, List.getD_eq_getElem?_getD, List.getElem?_eq_getElem h]; rfl
theorem mul_l7 {xs ys : List D} (hxs : ∀ x ∈ xs, WD x) (hys : ∀ y ∈ ys, WD y) (hly : ys.length ≤ 10) (hlx : xs.length ≤ 10) {i : Nat} (hi : i < xs.length) (p : Int) (ag : Int → Int → List ApiDy → Option (List ApiDy × Int)) :
    ∀ (r j : Nat) (e : Int) (O : List D), j + r = ys.length → O.length + r ≤ 2000 → ∀ n, r < n →
      iv_Calc_four_6ec2_l7 (ys.map dy) (xs.map dy) (i : Int) p ag n (j : Int) e (O.map dy) = ag ((i + 1 : Nat) : Int) ((ys.drop j).foldl (stepF timesD (xs.getD i zD)) (e, O)).1 (((ys.drop j).foldl (stepF timesD (xs.getD i zD)) (e, O)).2.map dy) := by
  intro r
  induction r with
  | zero =>
    intro j e O hj hO n hn
    obtain ⟨n, rfl⟩ : ∃ k, n = k + 1 := ⟨n - 1, by omega⟩
    rw [iv_Calc_four_6ec2_l7, if_neg (by rw [List.length_map]; omega), List.drop_eq_nil_of_le (by omega)]
    unfold iv_Calc_four_6ec2_j6 iv_Calc_four_6ec2_j5
    rw [show ((i : Int) + 1) = ((i + 1 : Nat) : Int) by omega, w64n (by omega)]
    rfl
  | succ r ih =>
    intro j e O hj hO n hn
    obtain ⟨n, rfl⟩ : ∃ k, n = k + 1 := ⟨n - 1, by omega⟩
    have hjn : j < ys.length := by omega
    have hy := hys _ (getD_mem hjn)
    have hx := hxs _ (getD_mem hi)
    have hrow : iv_Calc_four_6ec2_l7 (ys.map dy) (xs.map dy) (i : Int) p ag (n + 1) (j : Int) e (O.map dy) = iv_Calc_four_6ec2_l7 (ys.map dy) (xs.map dy) (i : Int) p ag n ((j + 1 : Nat) : Int) (stepF timesD (xs.getD i zD) (e, O) (ys.getD j zD)).1 ((stepF timesD (xs.getD i zD) (e, O) (ys.getD j zD)).2.map dy) := by
      rw [iv_Calc_four_6ec2_l7, if_pos (by rw [List.length_map]; omega), if_pos (by rw [List.length_map]; omega)]
      simp only [Int.toNat_natCast]
      rw [map_getD xs i hi, map_getD ys j hjn]
      simp only [etaDy]
      rw [dyad_Mul_eq hx hy]
      simp only [obind]
      rw [take_eq]
      simp only [obind]
      rw [if_pos (by simp only [List.length_cons, List.length_nil, List.length_map]; omega), show ((j : Int) + 1) = ((j + 1 : Nat) : Int) by omega, w64n (by omega)]
      unfold stepF
      by_cases h : e = 0
      · subst h
        rw [if_pos rfl, if_pos rfl]
        by_cases h2 : (timesD (xs.getD i zD) (ys.getD j zD)).2 = 0
        · rw [if_pos h2, if_pos h2]; simp
        · rw [if_neg h2, if_neg h2]; simp
      · rw [if_neg h, if_neg h]; simp
    rw [hrow, drop_getD hjn, List.foldl_cons]
    exact ih (j + 1) _ _ (by omega) (by rw [step_len]; simp only; omega) n (by omega)
theorem mul_l4 {xs ys : List D} (hxs : ∀ x ∈ xs, WD x) (hys : ∀ y ∈ ys, WD y) (hly : ys.length ≤ 10) (hlx : xs.length ≤ 10) (p : Int) :
    ∀ (r i : Nat) (e : Int) (O : List D), i + r = xs.length → O.length ≤ 100 * i → ∀ n, r < n →
      iv_Calc_four_6ec2_l4 (xs.map dy) (ys.map dy) p n (i : Int) e (O.map dy) = some (((xs.drop i).foldl (rowF timesD ys) (e, O)).2.map dy, ((xs.drop i).foldl (rowF timesD ys) (e, O)).1) := by
  intro r
  induction r with
  | zero =>
    intro i e O hi hO n hn
    obtain ⟨n, rfl⟩ : ∃ k, n = k + 1 := ⟨n - 1, by omega⟩
    rw [iv_Calc_four_6ec2_l4, if_neg (by rw [List.length_map]; omega), List.drop_eq_nil_of_le (by omega)]
    rfl
  | succ r ih =>
    intro i e O hi hO n hn
    obtain ⟨n, rfl⟩ : ∃ k, n = k + 1 := ⟨n - 1, by omega⟩
    have hin : i < xs.length := by omega
    rw [iv_Calc_four_6ec2_l4, if_pos (by rw [List.length_map]; omega), if_pos (by rw [List.length_map]; omega)]
    have h7 := mul_l7 hxs hys hly hlx hin p (fun z0 z1 z2 => iv_Calc_four_6ec2_l4 (xs.map dy) (ys.map dy) p n z0 z1 z2) ys.length 0 e O (by omega) (by omega) fuel (by unfold fuel; omega)
    refine h7.trans ?_
    rw [List.drop_zero, drop_getD hin, List.foldl_cons]
    exact ih (i + 1) _ _ (by omega) (by rw [fold_len]; simp only; omega) n (by omega)
/-- The ends of a stretch, each but once. -/
def endsL (a : I) : List D := if cmpD a.lo a.hi = 0 then [a.lo] else [a.lo, a.hi]
theorem endsL_WD {a : I} (h : okI a) : ∀ x ∈ endsL a, WD x := by
  unfold endsL
  split
  · intro x hx; have : x = a.lo := by simpa using hx
    subst this; exact h.1
  · intro x hx
    have : x = a.lo ∨ x = a.hi := by simpa using hx
    rcases this with rfl | rfl
    · exact h.1
    · exact h.2.1
theorem endsL_len (a : I) : (endsL a).length ≤ 2 := by unfold endsL; split <;> simp
theorem cmpD_zero {x y : D} : cmpD x y = 0 ↔ val x = val y := by
  rw [cmpD_eq]
  constructor
  · intro h
    by_cases h1 : val x < val y
    · rw [if_pos h1] at h; simp at h
    · rw [if_neg h1] at h
      by_cases h2 : val y < val x
      · rw [if_pos h2] at h; simp at h
      · grind
  · intro h
    rw [if_neg (by grind), if_neg (by grind)]
theorem endsL_two {a : I} (h : okI a) : endsL a = [a.lo, a.hi] ∨ (a.lo = a.hi ∧ endsL a = [a.lo]) := by
  unfold endsL
  by_cases h1 : cmpD a.lo a.hi = 0
  · rw [if_pos h1]; right; exact ⟨okD_ext h.1.1 h.2.1.1 (cmpD_zero.1 h1), rfl⟩
  · rw [if_neg h1]; left; rfl
theorem mulFour_eq {a b : I} (ha : okI a) (hb : okI b) (p : Int) : iv_Calc_four_6ec2 (iv a) (iv b) 0 p = some ((fourF timesD (endsL a) (endsL b)).2.map dy, (fourF timesD (endsL a) (endsL b)).1) := by
  have key : ∀ xs ys : List D, (∀ x ∈ xs, WD x) → (∀ y ∈ ys, WD y) → ys.length ≤ 2 → xs.length ≤ 2 → iv_Calc_four_6ec2_j2 (xs.map dy) p 0 (ys.map dy) = some ((fourF timesD xs ys).2.map dy, (fourF timesD xs ys).1) := by
    intro xs ys hx hy hl1 hl2
    unfold iv_Calc_four_6ec2_j2
    have := mul_l4 hx hy (by omega) (by omega) p xs.length 0 0 [] (by omega) (by simp) fuel (by unfold fuel; omega)
    rw [List.drop_zero] at this
    exact this
  have kx := endsL_WD ha
  have ky := endsL_WD hb
  have lx := endsL_len a
  have ly := endsL_len b
  have k := key _ _ kx ky ly lx
  unfold iv_Calc_four_6ec2 iv_Calc_four_6ec2_j1
  rw [ivLo, ivLo, ivHi, ivHi, dyad_Cmp_eq ha.1 ha.2.1, dyad_Cmp_eq hb.1 hb.2.1]
  simp only [obind]
  rw [← k]
  unfold endsL
  have e1 : ∀ x y : D, [dy x, dy y].take 1 = [x].map dy := fun _ _ => rfl
  have e2 : ∀ x y : D, [dy x, dy y] = [x, y].map dy := fun _ _ => rfl
  by_cases h1 : cmpD a.lo a.hi = 0
  · rw [if_pos h1, if_pos (by simp), if_pos h1]
    by_cases h2 : cmpD b.lo b.hi = 0
    · rw [if_pos h2, if_pos (by simp), if_pos h2]; rfl
    · rw [if_neg h2, if_neg h2]; rfl
  · rw [if_neg h1, if_neg h1]
    by_cases h2 : cmpD b.lo b.hi = 0
    · rw [if_pos h2, if_pos (by simp), if_pos h2]; rfl
    · rw [if_neg h2, if_neg h2]; rfl
def minL : List D → D
  | [] => zD
  | x :: l => l.foldl minD x
def maxL : List D → D
  | [] => zD
  | x :: l => l.foldl maxD x
theorem minL_WD {l : List D} (h : ∀ x ∈ l, WD x) : WD (minL l) := by
  cases l with
  | nil => exact WD_z
  | cons x l => exact WD_foldmin l x (h x List.mem_cons_self) fun y hy => h y (List.mem_cons_of_mem _ hy)
theorem maxL_WD {l : List D} (h : ∀ x ∈ l, WD x) : WD (maxL l) := by
  cases l with
  | nil => exact WD_z
  | cons x l => exact WD_foldmax l x (h x List.mem_cons_self) fun y hy => h y (List.mem_cons_of_mem _ hy)
theorem ends_eqL {l : List D} (h0 : l ≠ []) (h : ∀ x ∈ l, WD x) (hlen : l.length ≤ 1000) : iv_ends (l.map dy) = some (dy (minL l), dy (maxL l)) := by
  cases l with
  | nil => exact absurd rfl h0
  | cons x l => exact ends_eq x l (h x List.mem_cons_self) (fun y hy => h y (List.mem_cons_of_mem _ hy)) (by simp at hlen; omega)
theorem minD_stay {m x : D} (h : val m ≤ val x) : minD m x = m := by
  rcases minD_val m x with h1 | h1
  · exact h1.1
  · exact absurd h1.2 (by grind)
theorem maxD_stay {m x : D} (h : val x ≤ val m) : maxD m x = m := by
  rcases maxD_val m x with h1 | h1
  · exact h1.1
  · exact absurd h1.2 (by grind)
theorem minD_self (x : D) : minD x x = x := minD_stay (Rat.le_refl)
theorem maxD_self (x : D) : maxD x x = x := maxD_stay (Rat.le_refl)
theorem minD_le (m x : D) : val (minD m x) ≤ val m ∧ val (minD m x) ≤ val x := by
  rcases minD_val m x with h | h
  · rw [h.1]; exact ⟨Rat.le_refl, h.2⟩
  · rw [h.1]; exact ⟨by grind, Rat.le_refl⟩
theorem maxD_ge (m x : D) : val m ≤ val (maxD m x) ∧ val x ≤ val (maxD m x) := by
  rcases maxD_val m x with h | h
  · rw [h.1]; exact ⟨Rat.le_refl, h.2⟩
  · rw [h.1]; exact ⟨by grind, Rat.le_refl⟩
def four4 {α : Type} (f : D → D → D × Int) (x1 x2 y1 y2 : D) (z : α) (k : D → D → D → D → α × Int) : α × Int :=
  bindE (f x1 y1) z fun q1 => bindE (f x1 y2) z fun q2 => bindE (f x2 y1) z fun q3 => bindE (f x2 y2) z fun q4 => k q1 q2 q3 q4
def min4 (a b c d : D) : D := minD (minD (minD a b) c) d
def max4 (a b c d : D) : D := maxD (maxD (maxD a b) c) d
theorem four_fin {α : Type} (f : D → D → D × Int) (x1 x2 y1 y2 : D) (xs ys : List D) (hx : xs = [x1, x2] ∨ (x1 = x2 ∧ xs = [x1])) (hy : ys = [y1, y2] ∨ (y1 = y2 ∧ ys = [y1])) (z : α) (g : D → D → α × Int) :
    (if (fourF f xs ys).1 = 0 then g (minL (fourF f xs ys).2) (maxL (fourF f xs ys).2) else (z, (fourF f xs ys).1)) = four4 f x1 x2 y1 y2 z (fun a b c d => g (min4 a b c d) (max4 a b c d)) := by
  unfold four4 min4 max4
  rcases hx with rfl | ⟨rfl, rfl⟩ <;> rcases hy with rfl | ⟨rfl, rfl⟩
  · by_cases h1 : (f x1 y1).2 = 0 <;> by_cases h2 : (f x1 y2).2 = 0 <;> by_cases h3 : (f x2 y1).2 = 0 <;> by_cases h4 : (f x2 y2).2 = 0 <;> simp [fourF, rowF, stepF, bindE, minL, maxL, h1, h2, h3, h4]
  · by_cases h1 : (f x1 y1).2 = 0 <;> by_cases h3 : (f x2 y1).2 = 0 <;> simp [fourF, rowF, stepF, bindE, minL, maxL, h1, h3, minD_self, maxD_self]
    rw [minD_stay (minD_le _ _).2, maxD_stay (maxD_ge _ _).2]
  · by_cases h1 : (f x1 y1).2 = 0 <;> by_cases h2 : (f x1 y2).2 = 0 <;> simp [fourF, rowF, stepF, bindE, minL, maxL, h1, h2]
    rw [minD_stay (minD_le _ _).1, maxD_stay (maxD_ge _ _).1, minD_stay (minD_le _ _).2, maxD_stay (maxD_ge _ _).2]
  · by_cases h1 : (f x1 y1).2 = 0 <;> simp [fourF, rowF, stepF, bindE, minL, maxL, h1, minD_self, maxD_self]
def mulI (p : Nat) (a b : I) : I × Int := four4 timesD a.lo a.hi b.lo b.hi zI fun q1 q2 q3 q4 => bindE (roundD (min4 q1 q2 q3 q4) p false) zI fun lo => bindE (roundD (max4 q1 q2 q3 q4) p true) zI fun hi => (⟨lo, hi⟩, 0)
theorem four_ne {f : D → D → D × Int} {a b : I} (ha : okI a) (hb : okI b) : (fourF f (endsL a) (endsL b)).2 ≠ [] := by
  intro h
  have : (fourF f (endsL a) (endsL b)).2.length = 0 := by rw [h]; rfl
  unfold fourF at this
  rcases endsL_two ha with h1 | ⟨-, h1⟩ <;> rcases endsL_two hb with h2 | ⟨-, h2⟩ <;> rw [h1, h2] at this <;> simp [rowF, step_len] at this
theorem four_len {f : D → D → D × Int} {a b : I} (ha : okI a) (hb : okI b) : (fourF f (endsL a) (endsL b)).2.length ≤ 4 := by
  unfold fourF
  rcases endsL_two ha with h1 | ⟨-, h1⟩ <;> rcases endsL_two hb with h2 | ⟨-, h2⟩ <;> rw [h1, h2] <;> simp [rowF, step_len]
theorem ivMul_eq {a b : I} (ha : okI a) (hb : okI b) {p : Nat} (hp : 2 ≤ p ∧ p ≤ 400) (e : Int) : iv_Calc_Mul (iv a) (iv b) e (p : Int) = some (iv (st e zI (mulI p a b)).1, (st e zI (mulI p a b)).2) := by
  unfold iv_Calc_Mul
  rw [fine_two ha hb]
  simp only [obind]
  by_cases h : e = 0
  · subst h
    rw [if_neg (by simp), st_zero, mulFour_eq ha hb]
    simp only [obind]
    have hW : ∀ z ∈ (fourF timesD (endsL a) (endsL b)).2, WD z := four_WD (fun _ _ _ _ => WD_times) (endsL_WD hb) _ (endsL_WD ha) _ (by intro z hz; cases hz)
    have hl := four_len (f := timesD) ha hb
    rw [ends_eqL (four_ne ha hb) hW (by omega)]
    simp only [obind]
    have hm := four_fin timesD a.lo a.hi b.lo b.hi (endsL a) (endsL b) (endsL_two ha) (endsL_two hb) zI (fun m M => bindE (roundD m p false) zI fun lo => bindE (roundD M p true) zI fun hi => (⟨lo, hi⟩, 0))
    unfold mulI
    rw [← hm]
    have hWm := minL_WD hW
    have hWM := maxL_WD hW
    generalize (fourF timesD (endsL a) (endsL b)).1 = e at *
    generalize minL (fourF timesD (endsL a) (endsL b)).2 = m at *
    generalize maxL (fourF timesD (endsL a) (endsL b)).2 = M at *
    rw [downE_eq hWm hp]
    simp only [obind]
    by_cases h0 : e = 0
    · subst h0
      rw [if_pos rfl, st_zero, upE_eq hWM hp]
      simp only [obind]
      by_cases h1 : (roundD m p false).2 = 0
      · rw [bindE_ok h1, bindE_ok h1, st_zero]
        by_cases h2 : (roundD M p true).2 = 0
        · rw [bindE_ok h2, bindE_ok h2, outE_eq]
          simp only [obind]
          rfl
        · rw [bindE_no h2, bindE_no h2, outE_eq]
          simp only [obind]
          rw [if_neg h2]
      · rw [bindE_no h1, bindE_no h1, st_ne h1, outE_eq]
        simp only [obind]
        rw [if_neg h1]
    · rw [if_neg h0, st_ne h0, upE_eq hWM hp, st_ne h0]
      simp only [obind]
      rw [outE_eq, if_neg h0]
      simp only [obind]
  · rw [if_pos (fine_no h), st_ne h, iv_z]
theorem div_l7 {xs ys : List D} (hxs : ∀ x ∈ xs, WD x) (hys : ∀ y ∈ ys, WD y) (hly : ys.length ≤ 10) (hlx : xs.length ≤ 10) {i : Nat} (hi : i < xs.length) {p : Nat} (hp : 2 ≤ p ∧ p ≤ 400) (up : Bool) (ag : Int → Int → List ApiDy → Option (List ApiDy × Int)) :
    ∀ (r j : Nat) (e : Int) (O : List D), j + r = ys.length → O.length + r ≤ 2000 → ∀ n, r < n →
      iv_Calc_four_e8e7_l7 (ys.map dy) (xs.map dy) (i : Int) (p : Int) up ag n (j : Int) e (O.map dy) = ag ((i + 1 : Nat) : Int) ((ys.drop j).foldl (stepF (fun x y => divD x y p up) (xs.getD i zD)) (e, O)).1 (((ys.drop j).foldl (stepF (fun x y => divD x y p up) (xs.getD i zD)) (e, O)).2.map dy) := by
  intro r
  induction r with
  | zero =>
    intro j e O hj hO n hn
    obtain ⟨n, rfl⟩ : ∃ k, n = k + 1 := ⟨n - 1, by omega⟩
    rw [iv_Calc_four_e8e7_l7, if_neg (by rw [List.length_map]; omega), List.drop_eq_nil_of_le (by omega)]
    unfold iv_Calc_four_e8e7_j6 iv_Calc_four_e8e7_j5
    rw [show ((i : Int) + 1) = ((i + 1 : Nat) : Int) by omega, w64n (by omega)]
    rfl
  | succ r ih =>
    intro j e O hj hO n hn
    obtain ⟨n, rfl⟩ : ∃ k, n = k + 1 := ⟨n - 1, by omega⟩
    have hjn : j < ys.length := by omega
    have hy := hys _ (getD_mem hjn)
    have hx := hxs _ (getD_mem hi)
    have hrow : iv_Calc_four_e8e7_l7 (ys.map dy) (xs.map dy) (i : Int) (p : Int) up ag (n + 1) (j : Int) e (O.map dy) = iv_Calc_four_e8e7_l7 (ys.map dy) (xs.map dy) (i : Int) (p : Int) up ag n ((j + 1 : Nat) : Int) (stepF (fun x y => divD x y p up) (xs.getD i zD) (e, O) (ys.getD j zD)).1 ((stepF (fun x y => divD x y p up) (xs.getD i zD) (e, O) (ys.getD j zD)).2.map dy) := by
      rw [iv_Calc_four_e8e7_l7, if_pos (by rw [List.length_map]; omega), if_pos (by rw [List.length_map]; omega)]
      simp only [Int.toNat_natCast]
      rw [map_getD xs i hi, map_getD ys j hjn]
      simp only [etaDy]
      unfold iv_Calc_Div_1_1
      rw [dyad_Div_eq hx hy hp up]
      simp only [obind]
      rw [take_eq]
      simp only [obind]
      rw [if_pos (by simp only [List.length_cons, List.length_nil, List.length_map]; omega), show ((j : Int) + 1) = ((j + 1 : Nat) : Int) by omega, w64n (by omega)]
      unfold stepF
      by_cases h : e = 0
      · subst h
        rw [if_pos rfl, if_pos rfl]
        by_cases h2 : (divD (xs.getD i zD) (ys.getD j zD) p up).2 = 0
        · rw [if_pos h2, if_pos h2]; simp
        · rw [if_neg h2, if_neg h2]; simp
      · rw [if_neg h, if_neg h]; simp
    rw [hrow, drop_getD hjn, List.foldl_cons]
    exact ih (j + 1) _ _ (by omega) (by rw [step_len]; simp only; omega) n (by omega)
theorem div_l4 {xs ys : List D} (hxs : ∀ x ∈ xs, WD x) (hys : ∀ y ∈ ys, WD y) (hly : ys.length ≤ 10) (hlx : xs.length ≤ 10) {p : Nat} (hp : 2 ≤ p ∧ p ≤ 400) (up : Bool) :
    ∀ (r i : Nat) (e : Int) (O : List D), i + r = xs.length → O.length ≤ 100 * i → ∀ n, r < n →
      iv_Calc_four_e8e7_l4 (xs.map dy) (ys.map dy) (p : Int) up n (i : Int) e (O.map dy) = some (((xs.drop i).foldl (rowF (fun x y => divD x y p up) ys) (e, O)).2.map dy, ((xs.drop i).foldl (rowF (fun x y => divD x y p up) ys) (e, O)).1) := by
  intro r
  induction r with
  | zero =>
    intro i e O hi hO n hn
    obtain ⟨n, rfl⟩ : ∃ k, n = k + 1 := ⟨n - 1, by omega⟩
    rw [iv_Calc_four_e8e7_l4, if_neg (by rw [List.length_map]; omega), List.drop_eq_nil_of_le (by omega)]
    rfl
  | succ r ih =>
    intro i e O hi hO n hn
    obtain ⟨n, rfl⟩ : ∃ k, n = k + 1 := ⟨n - 1, by omega⟩
    have hin : i < xs.length := by omega
    rw [iv_Calc_four_e8e7_l4, if_pos (by rw [List.length_map]; omega), if_pos (by rw [List.length_map]; omega)]
    have h7 := div_l7 hxs hys hly hlx hin hp up (fun z0 z1 z2 => iv_Calc_four_e8e7_l4 (xs.map dy) (ys.map dy) (p : Int) up n z0 z1 z2) ys.length 0 e O (by omega) (by omega) fuel (by unfold fuel; omega)
    refine h7.trans ?_
    rw [List.drop_zero, drop_getD hin, List.foldl_cons]
    exact ih (i + 1) _ _ (by omega) (by rw [fold_len]; simp only; omega) n (by omega)
theorem divFour_eq {a b : I} (ha : okI a) (hb : okI b) {p : Nat} (hp : 2 ≤ p ∧ p ≤ 400) (up : Bool) : iv_Calc_four_e8e7 (iv a) (iv b) 0 (p : Int) up = some ((fourF (fun x y => divD x y p up) (endsL a) (endsL b)).2.map dy, (fourF (fun x y => divD x y p up) (endsL a) (endsL b)).1) := by
  have key : ∀ xs ys : List D, (∀ x ∈ xs, WD x) → (∀ y ∈ ys, WD y) → ys.length ≤ 2 → xs.length ≤ 2 → iv_Calc_four_e8e7_j2 (xs.map dy) (p : Int) up 0 (ys.map dy) = some ((fourF (fun x y => divD x y p up) xs ys).2.map dy, (fourF (fun x y => divD x y p up) xs ys).1) := by
    intro xs ys hx hy hl1 hl2
    unfold iv_Calc_four_e8e7_j2
    have := div_l4 hx hy (by omega) (by omega) hp up xs.length 0 0 [] (by omega) (by simp) fuel (by unfold fuel; omega)
    rw [List.drop_zero] at this
    exact this
  have kx := endsL_WD ha
  have ky := endsL_WD hb
  have lx := endsL_len a
  have ly := endsL_len b
  have k := key _ _ kx ky ly lx
  unfold iv_Calc_four_e8e7 iv_Calc_four_e8e7_j1
  rw [ivLo, ivLo, ivHi, ivHi, dyad_Cmp_eq ha.1 ha.2.1, dyad_Cmp_eq hb.1 hb.2.1]
  simp only [obind]
  rw [← k]
  unfold endsL
  have e1 : ∀ x y : D, [dy x, dy y].take 1 = [x].map dy := fun _ _ => rfl
  have e2 : ∀ x y : D, [dy x, dy y] = [x, y].map dy := fun _ _ => rfl
  by_cases h1 : cmpD a.lo a.hi = 0
  · rw [if_pos h1, if_pos (by simp), if_pos h1]
    by_cases h2 : cmpD b.lo b.hi = 0
    · rw [if_pos h2, if_pos (by simp), if_pos h2]; rfl
    · rw [if_neg h2, if_neg h2]; rfl
  · rw [if_neg h1, if_neg h1]
    by_cases h2 : cmpD b.lo b.hi = 0
    · rw [if_pos h2, if_pos (by simp), if_pos h2]; rfl
    · rw [if_neg h2, if_neg h2]; rfl
def divI (p : Nat) (a b : I) : I × Int := if hasI b zD then (zI, 3) else
  four4 (fun x y => divD x y p false) a.lo a.hi b.lo b.hi zI fun q1 q2 q3 q4 => four4 (fun x y => divD x y p true) a.lo a.hi b.lo b.hi zI fun r1 r2 r3 r4 => (⟨min4 q1 q2 q3 q4, max4 r1 r2 r3 r4⟩, 0)
theorem fourF_ne {f : D → D → D × Int} {xs ys : List D} {e : Int} (he : e ≠ 0) : ∀ (s : Int × List D), s.1 = e → (xs.foldl (rowF f ys) s).1 = e := by
  have h1 : ∀ (x : D) (s : Int × List D) (y : D), s.1 = e → (stepF f x s y).1 = e := by
    intro x s y hs
    unfold stepF
    rw [if_neg (by rw [hs]; exact he)]
    exact hs
  have h2 : ∀ (x : D) (l : List D) (s : Int × List D), s.1 = e → (l.foldl (stepF f x) s).1 = e := by
    intro x l
    induction l with
    | nil => intro s hs; exact hs
    | cons y l ih => intro s hs; rw [List.foldl_cons]; exact ih _ (h1 x s y hs)
  induction xs with
  | nil => intro s hs; exact hs
  | cons x l ih => intro s hs; rw [List.foldl_cons]; exact ih _ (h2 x ys s hs)
theorem divFour_ne {a b : I} (ha : okI a) (hb : okI b) {p : Nat} (hp : 2 ≤ p ∧ p ≤ 400) (up : Bool) {e : Int} (he : e ≠ 0) : ∃ L : List D, iv_Calc_four_e8e7 (iv a) (iv b) e (p : Int) up = some (L.map dy, e) ∧ L ≠ [] ∧ L.length ≤ 4 ∧ ∀ z ∈ L, WD z := by
  have kx := endsL_WD ha
  have ky := endsL_WD hb
  have lx := endsL_len a
  have ly := endsL_len b
  have hk := div_l4 kx ky (by omega) (by omega) hp up (endsL a).length 0 e [] (by omega) (by simp) fuel (by unfold fuel; omega)
  rw [List.drop_zero, fourF_ne he _ rfl] at hk
  refine ⟨_, ?_, ?_, ?_, four_WD (f := fun x y => divD x y p up) (fun _ _ _ _ => WD_div) ky (endsL a) kx (e, []) (by intro z hz; cases hz)⟩
  · unfold iv_Calc_four_e8e7 iv_Calc_four_e8e7_j1 iv_Calc_four_e8e7_j2
    rw [ivLo, ivLo, ivHi, ivHi, dyad_Cmp_eq ha.1 ha.2.1, dyad_Cmp_eq hb.1 hb.2.1]
    simp only [obind]
    rw [← hk]
    unfold endsL
    by_cases h1 : cmpD a.lo a.hi = 0
    · rw [if_pos h1, if_pos (by simp), if_pos h1]
      by_cases h2 : cmpD b.lo b.hi = 0
      · rw [if_pos h2, if_pos (by simp), if_pos h2]; rfl
      · rw [if_neg h2, if_neg h2]; rfl
    · rw [if_neg h1, if_neg h1]
      by_cases h2 : cmpD b.lo b.hi = 0
      · rw [if_pos h2, if_pos (by simp), if_pos h2]; rfl
      · rw [if_neg h2, if_neg h2]; rfl
  · intro h
    have hlen : ((endsL a).foldl (rowF (fun x y => divD x y p up) (endsL b)) (e, [])).2.length = 0 := by rw [h]; rfl
    rcases endsL_two ha with h1 | ⟨-, h1⟩ <;> rcases endsL_two hb with h2 | ⟨-, h2⟩ <;> rw [h1, h2] at hlen <;> simp [rowF, step_len] at hlen
  · rcases endsL_two ha with h1 | ⟨-, h1⟩ <;> rcases endsL_two hb with h2 | ⟨-, h2⟩ <;> rw [h1, h2] <;> simp [rowF, step_len]
theorem ivDiv_eq {a b : I} (ha : okI a) (hb : okI b) {p : Nat} (hp : 2 ≤ p ∧ p ≤ 400) (e : Int) : iv_Calc_Div (iv a) (iv b) e (p : Int) = some (iv (st e zI (divI p a b)).1, (st e zI (divI p a b)).2) := by
  unfold iv_Calc_Div
  rw [fine_two ha hb]
  simp only [obind]
  by_cases h : e = 0
  · subst h
    rw [if_neg (by simp), st_zero, ← dy_z, ivHas_eq hb WD_z]
    simp only [obind]
    unfold divI
    by_cases hz : hasI b zD = true
    · rw [if_pos hz, if_pos hz, note_eq]
      simp only [obind]
      rfl
    · rw [if_neg hz, if_neg hz]
      unfold iv_Calc_Div_1
      simp only [obind]
      rw [divFour_eq ha hb hp]
      simp only [obind]
      have hW : ∀ up, ∀ z ∈ (fourF (fun x y => divD x y p up) (endsL a) (endsL b)).2, WD z := fun up => four_WD (fun _ _ _ _ => WD_div) (endsL_WD hb) _ (endsL_WD ha) _ (by intro z hz; cases hz)
      have hl := fun up => four_len (f := fun x y => divD x y p up) ha hb
      rw [ends_eqL (four_ne ha hb) (hW false) (by have := hl false; omega)]
      simp only [obind]
      rw [← four_fin (fun x y => divD x y p false) a.lo a.hi b.lo b.hi (endsL a) (endsL b) (endsL_two ha) (endsL_two hb) zI (fun m _ => four4 (fun x y => divD x y p true) a.lo a.hi b.lo b.hi zI fun r1 r2 r3 r4 => (⟨m, max4 r1 r2 r3 r4⟩, 0))]
      by_cases h0 : (fourF (fun x y => divD x y p false) (endsL a) (endsL b)).1 = 0
      · rw [h0, if_pos rfl, divFour_eq ha hb hp]
        simp only [obind]
        rw [ends_eqL (four_ne ha hb) (hW true) (by have := hl true; omega)]
        simp only [obind]
        rw [outE_eq]
        simp only [obind]
        generalize minL (fourF (fun x y => divD x y p false) (endsL a) (endsL b)).2 = m
        rw [← four_fin (fun x y => divD x y p true) a.lo a.hi b.lo b.hi (endsL a) (endsL b) (endsL_two ha) (endsL_two hb) zI (fun _ M => (⟨m, M⟩, 0))]
        by_cases h1 : (fourF (fun x y => divD x y p true) (endsL a) (endsL b)).1 = 0
        · rw [if_pos h1, if_pos h1, h1]
        · rw [if_neg h1, if_neg h1]
      · rw [if_neg h0]
        obtain ⟨L, l1, l2, l3, l4⟩ := divFour_ne ha hb hp true h0
        rw [l1]
        simp only [obind]
        rw [ends_eqL l2 l4 (by omega)]
        simp only [obind]
        rw [outE_eq, if_neg h0]
        simp only [obind]
  · rw [if_pos (fine_no h), st_ne h, iv_z]
/-- From the least to the greatest. -/
def hullI (l : List I) : I := ⟨minL (l.flatMap fun a => [a.lo, a.hi]), maxL (l.flatMap fun a => [a.lo, a.hi])⟩
theorem map_getI (l : List I) (i : Nat) (h : i < l.length) : (l.map iv).getD i zApiIv = iv (l.getD i zI) := by
  simp [List.getD, List.getElem?_map, List.getElem?_eq_getElem h]
theorem getI_mem {l : List I} {i : Nat} (h : i < l.length) : l.getD i zI ∈ l := by
  rw [List.getD_eq_getElem?_getD, List.getElem?_eq_getElem h]; exact List.getElem_mem h
theorem dropI {l : List I} {i : Nat} (h : i < l.length) : l.drop i = l.getD i zI :: l.drop (i + 1) := by
  rw [List.drop_eq_getElem_cons h, List.getD_eq_getElem?_getD, List.getElem?_eq_getElem h]; rfl
theorem fine_all {l : List I} (hl : ∀ a ∈ l, okI a) (hlen : l.length ≤ 100) (e p : Int) : ∀ (r i : Nat), i + r = l.length → ∀ n, r < n → iv_Calc_fine_l2 (l.map iv) p n (i : Int) e = some (e == 0, e) := by
  intro r
  induction r with
  | zero =>
    intro i hi n hn
    obtain ⟨n, rfl⟩ : ∃ k, n = k + 1 := ⟨n - 1, by omega⟩
    exact fine_nil _ _ _ _ _ (by rw [List.length_map]; omega)
  | succ r ih =>
    intro i hi n hn
    obtain ⟨n, rfl⟩ : ∃ k, n = k + 1 := ⟨n - 1, by omega⟩
    have hin : i < l.length := by omega
    rw [fine_cons _ _ _ _ _ (by rw [List.length_map]; omega) (by omega) (by rw [map_getI l i hin]; exact ivRight_eq (hl _ (getI_mem hin)))]
    exact ih (i + 1) (by omega) n (by omega)
theorem hull_l3 {l : List I} (hl : ∀ a ∈ l, okI a) (hlen : l.length ≤ 100) (x : Bool × Int) : ∀ (r i : Nat) (O : List D), i + r = l.length → O.length = 2 * i → (∀ z ∈ O, WD z) → O ++ (l.drop i).flatMap (fun a => [a.lo, a.hi]) ≠ [] → ∀ n, r < n →
    iv_Calc_Hull_l3 (l.map iv) x n (i : Int) (O.map dy) = some (iv ⟨minL (O ++ (l.drop i).flatMap fun a => [a.lo, a.hi]), maxL (O ++ (l.drop i).flatMap fun a => [a.lo, a.hi])⟩, x.2) := by
  intro r
  induction r with
  | zero =>
    intro i O hi hO hW hne n hn
    obtain ⟨n, rfl⟩ : ∃ k, n = k + 1 := ⟨n - 1, by omega⟩
    rw [List.drop_eq_nil_of_le (by omega)] at hne ⊢
    simp only [List.flatMap_nil, List.append_nil] at hne ⊢
    rw [iv_Calc_Hull_l3, if_neg (by rw [List.length_map]; omega)]
    unfold iv_Calc_Hull_j2
    rw [ends_eqL hne hW (by omega)]
    rfl
  | succ r ih =>
    intro i O hi hO hW hne n hn
    obtain ⟨n, rfl⟩ : ∃ k, n = k + 1 := ⟨n - 1, by omega⟩
    have hin : i < l.length := by omega
    have hok := hl _ (getI_mem hin)
    have hw : IntKind.i64.wrap ((i : Int) + 1) = ((i + 1 : Nat) : Int) := by rw [w64] <;> omega
    rw [iv_Calc_Hull_l3, if_pos (by rw [List.length_map]; omega), if_pos (by rw [List.length_map]; omega), if_pos (by simp only [List.length_cons, List.length_nil, List.length_map]; omega), hw, Int.toNat_natCast, map_getI l i hin]
    have e1 : O.map dy ++ [(⟨(iv (l.getD i zI)).Lo.M, (iv (l.getD i zI)).Lo.E⟩ : ApiDy), (⟨(iv (l.getD i zI)).Hi.M, (iv (l.getD i zI)).Hi.E⟩ : ApiDy)] = (O ++ [(l.getD i zI).lo, (l.getD i zI).hi]).map dy := by
      rw [List.map_append]; rfl
    have e2 : O ++ (l.drop i).flatMap (fun a => [a.lo, a.hi]) = (O ++ [(l.getD i zI).lo, (l.getD i zI).hi]) ++ (l.drop (i + 1)).flatMap (fun a => [a.lo, a.hi]) := by
      rw [dropI hin, List.flatMap_cons, List.append_assoc]
    rw [e1, e2]
    rw [e2] at hne
    refine ih (i + 1) _ (by omega) (by rw [List.length_append]; simp; omega) ?_ hne n (by omega)
    intro z hz
    rcases List.mem_append.1 hz with h | h
    · exact hW z h
    · have : z = (l.getD i zI).lo ∨ z = (l.getD i zI).hi := by simpa using h
      rcases this with rfl | rfl
      · exact hok.1
      · exact hok.2.1
theorem ivHull_eq {l : List I} (h0 : l ≠ []) (hl : ∀ a ∈ l, okI a) (hlen : l.length ≤ 100) (e p : Int) : iv_Calc_Hull (l.map iv) e p = some (iv (st e zI (hullI l, 0)).1, (st e zI (hullI l, 0)).2) := by
  unfold iv_Calc_Hull iv_Calc_Hull_j1
  have hpos : l.length ≠ 0 := fun h => h0 (List.eq_nil_of_length_eq_zero h)
  rw [if_neg (by rw [List.length_map]; omega)]
  have hf : iv_Calc_fine (l.map iv) e p = some (e == 0, e) := by
    unfold iv_Calc_fine
    exact fine_all hl hlen e p l.length 0 (by omega) fuel (by unfold fuel; omega)
  rw [hf]
  simp only [obind]
  by_cases h : e = 0
  · subst h
    rw [if_neg (by simp), st_zero]
    have := hull_l3 hl hlen (true, 0) l.length 0 [] (by omega) rfl (by intro z hz; cases hz) (by
      rw [List.drop_zero, List.nil_append]
      cases l with
      | nil => exact absurd rfl h0
      | cons a l => simp) fuel (by unfold fuel; omega)
    rw [List.drop_zero, List.nil_append] at this
    exact this
  · rw [if_pos (fine_no h), st_ne h, iv_z]
theorem natCast_le {a b : Nat} (h : a ≤ b) : (a : Rat) ≤ (b : Rat) := by exact_mod_cast h
theorem natCast_nonneg (a : Nat) : (0 : Rat) ≤ (a : Rat) := by exact_mod_cast Nat.zero_le a
theorem mul_le_iff {a b p : Rat} (hp : 0 < p) : a * p ≤ b * p ↔ a ≤ b := by
  constructor
  · intro h
    by_cases h' : a ≤ b
    · exact h'
    · have := Rat.mul_lt_mul_of_pos_right (show b < a by grind) hp
      grind
  · intro h; exact Rat.mul_le_mul_of_nonneg_right h (Rat.le_of_lt hp)
theorem val_cut (neg : Bool) (m : Nat) (e : Int) (s : Bool) (p : Nat) (away : Bool) : val (cutD neg m e s p away) = (sg neg (cutN m s p away) : Rat) * p2 (e + (blen m - p : Nat)) := by
  unfold cutD; rw [val_nrm]
theorem cutN_lo (m : Nat) (s : Bool) (p : Nat) : cutN m s p false * 2 ^ (blen m - p) ≤ m := by
  unfold cutN
  simp only [Bool.and_false, Bool.false_eq_true, if_false, Nat.add_zero]
  exact Nat.div_mul_le_self _ _
theorem cutN_hi (m : Nat) (s : Bool) (p : Nat) : m + (if s then 1 else 0) ≤ cutN m s p true * 2 ^ (blen m - p) := by
  unfold cutN
  have h1 := Nat.div_add_mod m (2 ^ (blen m - p))
  have hp : 0 < 2 ^ (blen m - p) := Nat.pow_pos (by decide)
  have h2 := Nat.mod_lt m hp
  generalize 2 ^ (blen m - p) = W at *
  rw [Nat.add_mul, Nat.mul_comm (m / W) W]
  cases s with
  | true => simp; omega
  | false =>
    by_cases h : m % W = 0
    · simp [h]; omega
    · simp [h]; omega
theorem cutN_le (m : Nat) (s : Bool) (p : Nat) (away : Bool) : cutN m s p away ≤ 2 ^ p := by
  unfold cutN
  have h1 := blen_lt m
  have h2 : m / 2 ^ (blen m - p) < 2 ^ p := by
    rw [Nat.div_lt_iff_lt_mul (Nat.pow_pos (by decide)), ← Nat.pow_add]
    exact Nat.lt_of_lt_of_le h1 (Nat.pow_le_pow_right (by decide) (by omega))
  split <;> omega
theorem cutN_ge (m : Nat) (s : Bool) (p : Nat) (away : Bool) (h : 0 < blen m - p) : 2 ^ (p - 1) ≤ cutN m s p away ∨ p = 0 := by
  rcases Nat.eq_zero_or_pos p with hp | hp
  · exact Or.inr hp
  · left
    have h0 : m ≠ 0 := by intro h0; subst h0; rw [blen_zero] at h; omega
    have h1 := blen_le h0
    unfold cutN
    refine Nat.le_trans ?_ (Nat.le_add_right _ _)
    rw [Nat.le_div_iff_mul_le (Nat.pow_pos (by decide)), ← Nat.pow_add]
    refine Nat.le_trans (Nat.pow_le_pow_right (by decide) (by omega)) h1
/-- The number rounded, ahead of its being told. -/
def rnd (x : D) (p : Nat) (up : Bool) : D := cutD (decide (x.m < 0)) x.m.natAbs x.e false p (up != decide (x.m < 0))
theorem roundD_eq (x : D) (p : Nat) (up : Bool) : roundD x p up = tell (rnd x p up) := rfl
theorem p2_split (e : Int) (n : Nat) : p2 (e + (n : Nat)) = ((2 ^ n : Nat) : Rat) * p2 e := by rw [Int.add_comm, p2_add, p2_nat]
theorem val_abs_pos {x : D} (h : ¬ x.m < 0) : val x = (x.m.natAbs : Rat) * p2 x.e := by
  unfold val
  congr 1
  have : x.m = (x.m.natAbs : Int) := by omega
  conv => lhs; rw [this]
  rw [Rat.intCast_natCast]
theorem val_abs_neg {x : D} (h : x.m < 0) : val x = -((x.m.natAbs : Rat) * p2 x.e) := by
  unfold val
  have : x.m = -(x.m.natAbs : Int) := by omega
  conv => lhs; rw [this]
  rw [Rat.intCast_neg, Rat.intCast_natCast, Rat.neg_mul]
theorem sg_pos_cast (n : Nat) : ((sg false n : Int) : Rat) = (n : Rat) := by
  show (((n : Nat) : Int) : Rat) = (n : Rat)
  rw [Rat.intCast_natCast]
theorem sg_neg_cast (n : Nat) : ((sg true n : Int) : Rat) = -(n : Rat) := by
  show ((-((n : Nat) : Int) : Int) : Rat) = -(n : Rat)
  rw [Rat.intCast_neg, Rat.intCast_natCast]
/-- A size that is cut to the lesser one. -/
theorem cut_lo (m : Nat) (e : Int) (s : Bool) (p : Nat) : ((cutN m s p false : Nat) : Rat) * p2 (e + (blen m - p : Nat)) ≤ (m : Rat) * p2 e := by
  rw [p2_split, ← Rat.mul_assoc, ← Rat.natCast_mul, mul_le_iff (p2_pos e)]
  exact natCast_le (cutN_lo m s p)
theorem cut_hi (m : Nat) (e : Int) (s : Bool) (p : Nat) : ((m + (if s then 1 else 0) : Nat) : Rat) * p2 e ≤ ((cutN m s p true : Nat) : Rat) * p2 (e + (blen m - p : Nat)) := by
  rw [p2_split, ← Rat.mul_assoc, ← Rat.natCast_mul, mul_le_iff (p2_pos e)]
  exact natCast_le (cutN_hi m s p)
theorem rnd_down (x : D) (p : Nat) : val (rnd x p false) ≤ val x := by
  unfold rnd
  rw [val_cut]
  by_cases h : x.m < 0
  · rw [val_abs_neg h, decide_eq_true h, sg_neg_cast]
    have := cut_hi x.m.natAbs x.e false p
    simp at this ⊢
    grind
  · rw [val_abs_pos h, decide_eq_false h, sg_pos_cast]
    exact cut_lo _ _ _ _
theorem rnd_up (x : D) (p : Nat) : val x ≤ val (rnd x p true) := by
  unfold rnd
  rw [val_cut]
  by_cases h : x.m < 0
  · rw [val_abs_neg h, decide_eq_true h, sg_neg_cast]
    have := cut_lo x.m.natAbs x.e false p
    simp at this ⊢
    grind
  · rw [val_abs_pos h, decide_eq_false h, sg_pos_cast]
    have := cut_hi x.m.natAbs x.e false p
    simp at this ⊢
    exact this
/-- A number of at most p bits (or the power of 2 above them). -/
def rep (p : Nat) (q : Rat) : Prop := ∃ (w f : Int), q = (w : Rat) * p2 f ∧ w.natAbs ≤ 2 ^ p
theorem rnd_rep (x : D) (p : Nat) (up : Bool) : rep p (val (rnd x p up)) := by
  unfold rnd
  rw [val_cut]
  exact ⟨_, _, rfl, by rw [sg_abs']; exact cutN_le _ _ _ _⟩
theorem rnd_neg (x : D) (p : Nat) (up : Bool) : val (rnd (negD x) p (!up)) = -val (rnd x p up) := by
  unfold rnd
  have e1 : (negD x).m.natAbs = x.m.natAbs := by unfold negD; simp
  have e2 : (negD x).e = x.e := rfl
  rw [val_cut, val_cut, e1, e2]
  have hm : (negD x).m = -x.m := rfl
  rcases (show x.m < 0 ∨ x.m = 0 ∨ 0 < x.m by omega) with h | h | h
  · rw [decide_eq_true h, decide_eq_false (show ¬ (negD x).m < 0 by omega), sg_neg_cast, sg_pos_cast]
    have : ((!up) != false) = (up != true) := by cases up <;> rfl
    rw [this, Rat.neg_mul, Rat.neg_neg]
  · rw [decide_eq_false (show ¬ x.m < 0 by omega), decide_eq_false (show ¬ (negD x).m < 0 by omega), h]
    have : ∀ b, cutN (0 : Int).natAbs false p b = 0 := by intro b; unfold cutN; simp
    rw [this, this]
    simp [sg]
  · rw [decide_eq_false (show ¬ x.m < 0 by omega), decide_eq_true (show (negD x).m < 0 by omega), sg_neg_cast, sg_pos_cast]
    have : ((!up) != true) = (up != false) := by cases up <;> rfl
    rw [this, Rat.neg_mul]
theorem nat_le_of_cast {a b : Nat} (h : (a : Rat) ≤ (b : Rat)) : a ≤ b := by exact_mod_cast h
theorem p2_lt {a b : Int} (h : a < b) : p2 a < p2 b := by
  have h1 := p2_le (show a + 1 ≤ b by omega)
  have h2 := p2_pos a
  rw [p2_add] at h1
  have : p2 1 = 2 := by rw [show (1 : Int) = ((1 : Nat) : Int) by rfl, p2_nat]; rfl
  rw [this] at h1
  grind
theorem p2_le_iff {a b : Int} : p2 a ≤ p2 b ↔ a ≤ b := by
  constructor
  · intro h
    rcases (show a ≤ b ∨ b < a by omega) with h1 | h1
    · exact h1
    · have := p2_lt h1; grind
  · exact p2_le
theorem cutN_none {m p : Nat} (h : blen m - p = 0) (away : Bool) : cutN m false p away = m := by
  unfold cutN; rw [h]; simp [Nat.mod_one]
theorem rnd_none {x : D} {p : Nat} (h : blen x.m.natAbs - p = 0) (up : Bool) : val (rnd x p up) = val x := by
  unfold rnd
  rw [val_cut, h, cutN_none h]
  by_cases hx : x.m < 0
  · rw [decide_eq_true hx, sg_neg_cast, val_abs_neg hx, Rat.neg_mul]; simp
  · rw [decide_eq_false hx, sg_pos_cast, val_abs_pos hx]; simp
theorem rep_bound {w : Int} {p : Nat} (hw : w.natAbs ≤ 2 ^ p) (f : Int) : (w.natAbs : Rat) * p2 f ≤ p2 (f + (p : Nat)) := by
  rw [p2_split, mul_le_iff (p2_pos f)]; exact natCast_le hw
/-- Of what has so many bits nothing is between a number and what it is rounded down to. -/
theorem rnd_best {x : D} {p : Nat} (hp : 1 ≤ p) {y : Rat} (hy : rep p y) (h : y ≤ val x) : y ≤ val (rnd x p false) := by
  by_cases hn0 : blen x.m.natAbs - p = 0
  · rw [rnd_none hn0]; exact h
  obtain ⟨w, f, rfl, hw⟩ := hy
  have hwb := rep_bound hw f
  unfold rnd
  rw [val_cut]
  generalize hn : blen x.m.natAbs - p = n at *
  have hM0 : x.m.natAbs ≠ 0 := by intro h0; rw [h0, blen_zero] at hn; omega
  have hMge := blen_le hM0
  have hbl : blen x.m.natAbs = n + p := by omega
  rw [hbl] at hMge
  by_cases hx : x.m < 0
  · -- below nought: to the greater size
    rw [decide_eq_true hx, sg_neg_cast]
    rw [val_abs_neg hx] at h
    have hb : (false != true) = true := rfl
    rw [hb]
    generalize x.m.natAbs = M at *
    have hMpos : (0 : Rat) < (M : Rat) * p2 x.e := Rat.mul_pos (by exact_mod_cast (Nat.pos_of_ne_zero hM0)) (p2_pos x.e)
    have hw0 : w < 0 := by
      rcases (show w < 0 ∨ 0 ≤ w by omega) with h1 | h1
      · exact h1
      · have h2 : (0 : Rat) ≤ (w : Rat) := by exact_mod_cast h1
        have h3 := Rat.mul_nonneg h2 (Rat.le_of_lt (p2_pos f))
        grind
    obtain ⟨v, rfl⟩ : ∃ v : Nat, w = -(v : Int) := ⟨w.natAbs, by omega⟩
    rw [Int.natAbs_neg, Int.natAbs_natCast] at hwb hw
    rw [Rat.intCast_neg, Rat.intCast_natCast] at h ⊢
    have h1 : (M : Rat) * p2 x.e ≤ (v : Rat) * p2 f := by grind
    have goal : ((cutN M false p true : Nat) : Rat) * p2 (x.e + (n : Nat)) ≤ (v : Rat) * p2 f := by
      have hp2 : 0 < 2 ^ n := Nat.pow_pos (by decide)
      have h3 := Nat.div_add_mod M (2 ^ n)
      have h4 := Nat.mod_lt M hp2
      by_cases hf : x.e + (n : Nat) ≤ f
      · -- on the grid
        obtain ⟨k, hk⟩ : ∃ k : Nat, f = x.e + (n : Nat) + (k : Nat) := ⟨(f - (x.e + (n : Nat))).toNat, by omega⟩
        rw [hk, p2_split _ k, ← Rat.mul_assoc, mul_le_iff (p2_pos _), ← Rat.natCast_mul]
        rw [hk, p2_split _ k, p2_split _ n, ← Rat.mul_assoc, ← Rat.mul_assoc, mul_le_iff (p2_pos _), ← Rat.natCast_mul, ← Rat.natCast_mul] at h1
        have h2 := nat_le_of_cast h1
        apply natCast_le
        unfold cutN
        rw [hn]
        simp only [Bool.false_or, Bool.and_true]
        by_cases hr : M % 2 ^ n = 0
        · simp only [hr, bne_self_eq_false, Bool.false_eq_true, if_false, Nat.add_zero]
          have h6 : M / 2 ^ n * 2 ^ n ≤ v * 2 ^ k * 2 ^ n := by rw [Nat.mul_comm (M / 2 ^ n)]; omega
          exact Nat.le_of_mul_le_mul_right h6 hp2
        · have : (M % 2 ^ n != 0) = true := by simpa using hr
          rw [this, if_pos rfl]
          have h5 : M / 2 ^ n * 2 ^ n < v * 2 ^ k * 2 ^ n := by rw [Nat.mul_comm (M / 2 ^ n)]; omega
          exact Nat.lt_of_mul_lt_mul_right h5
      · -- below the grid: both are the same power of 2
        have h5 : (M : Rat) * p2 x.e ≤ p2 (x.e + ((n + p - 1 : Nat) : Int)) := by
          have := p2_le (show f + (p : Nat) ≤ x.e + ((n + p - 1 : Nat) : Int) by omega)
          grind
        rw [p2_split, mul_le_iff (p2_pos _)] at h5
        have h6 := nat_le_of_cast h5
        have hMe : M = 2 ^ (n + p - 1) := by omega
        have hMd : M = 2 ^ n * 2 ^ (p - 1) := by rw [hMe, ← Nat.pow_add]; congr 1; omega
        have hc : cutN M false p true * 2 ^ n = M := by
          unfold cutN
          rw [hn, hMd, Nat.mul_mod_right, Nat.mul_div_cancel_left _ hp2]
          simp [Nat.mul_comm]
        rw [p2_split, ← Rat.mul_assoc, ← Rat.natCast_mul, hc]
        exact h1
    grind
  · rw [decide_eq_false hx, sg_pos_cast]
    rw [val_abs_pos hx] at h
    have hb : (false != false) = false := rfl
    rw [hb]
    have hge := cutN_ge x.m.natAbs false p false (by omega)
    generalize x.m.natAbs = M at *
    have hnn : (0 : Rat) ≤ ((cutN M false p false : Nat) : Rat) * p2 (x.e + (n : Nat)) := Rat.mul_nonneg (natCast_nonneg _) (Rat.le_of_lt (p2_pos _))
    rcases (show w ≤ 0 ∨ 0 < w by omega) with h1 | h1
    · have h2 : (w : Rat) ≤ 0 := by exact_mod_cast h1
      have h3 := Rat.mul_nonneg (show (0 : Rat) ≤ -(w : Rat) by grind) (Rat.le_of_lt (p2_pos f))
      grind
    · obtain ⟨v, rfl⟩ : ∃ v : Nat, w = (v : Int) := ⟨w.natAbs, by omega⟩
      rw [Int.natAbs_natCast] at hwb hw
      rw [Rat.intCast_natCast] at h ⊢
      by_cases hf : x.e + (n : Nat) ≤ f
      · obtain ⟨k, hk⟩ : ∃ k : Nat, f = x.e + (n : Nat) + (k : Nat) := ⟨(f - (x.e + (n : Nat))).toNat, by omega⟩
        rw [hk, p2_split _ k, ← Rat.mul_assoc, mul_le_iff (p2_pos _), ← Rat.natCast_mul]
        rw [hk, p2_split _ k, p2_split _ n, ← Rat.mul_assoc, ← Rat.mul_assoc, mul_le_iff (p2_pos _), ← Rat.natCast_mul, ← Rat.natCast_mul] at h
        have h2 := nat_le_of_cast h
        apply natCast_le
        unfold cutN
        rw [hn]
        simp only [Bool.and_false, Bool.false_eq_true, if_false, Nat.add_zero]
        rw [Nat.le_div_iff_mul_le (Nat.pow_pos (by decide))]
        exact h2
      · have h3 : 2 ^ (p - 1) ≤ cutN M false p false := by
          rcases hge with h3 | h3
          · exact h3
          · omega
        have h4 := natCast_le h3
        have h5 := Rat.mul_le_mul_of_nonneg_right h4 (Rat.le_of_lt (p2_pos (x.e + (n : Nat))))
        rw [← p2_split] at h5
        have := p2_le (show f + (p : Nat) ≤ x.e + (n : Nat) + ((p - 1 : Nat) : Int) by omega)
        grind
theorem rep_neg {p : Nat} {y : Rat} (h : rep p y) : rep p (-y) := by
  obtain ⟨w, f, rfl, hw⟩ := h
  exact ⟨-w, f, by rw [Rat.intCast_neg, Rat.neg_mul], by rwa [Int.natAbs_neg]⟩
theorem rnd_best_up {x : D} {p : Nat} (hp : 1 ≤ p) {y : Rat} (hy : rep p y) (h : val x ≤ y) : val (rnd x p true) ≤ y := by
  have h1 := rnd_neg x p true
  have h2 := rnd_best (x := negD x) hp (rep_neg hy) (by rw [val_neg]; grind)
  rw [show (!true) = false by rfl] at h1
  rw [h1] at h2
  grind
def G (L : Int) (q : Rat) : Prop := ∃ z : Int, q = (z : Rat) * p2 L
def B (H : Int) (q : Rat) : Prop := -(p2 H) ≤ q ∧ q ≤ p2 H
theorem G.add {L : Int} {x y : Rat} (hx : G L x) (hy : G L y) : G L (x + y) := by
  obtain ⟨a, rfl⟩ := hx
  obtain ⟨b, rfl⟩ := hy
  exact ⟨a + b, by rw [Rat.intCast_add]; grind⟩
theorem G.neg {L : Int} {x : Rat} (hx : G L x) : G L (-x) := by
  obtain ⟨a, rfl⟩ := hx
  exact ⟨-a, by rw [Rat.intCast_neg]; grind⟩
theorem G.mul {L M : Int} {x y : Rat} (hx : G L x) (hy : G M y) : G (L + M) (x * y) := by
  obtain ⟨a, rfl⟩ := hx
  obtain ⟨b, rfl⟩ := hy
  exact ⟨a * b, by rw [Rat.intCast_mul, p2_add]; grind⟩
theorem G.mono {L M : Int} {x : Rat} (hx : G L x) (h : M ≤ L) : G M x := by
  obtain ⟨a, rfl⟩ := hx
  exact ⟨a * 2 ^ (L - M).toNat, by rw [Rat.intCast_mul, Rat.mul_assoc, ← p2_diff h]⟩
theorem G.zero (L : Int) : G L 0 := ⟨0, by simp⟩
theorem G.of {z : Int} {L M : Int} (h : M ≤ L) : G M ((z : Rat) * p2 L) := G.mono ⟨z, rfl⟩ h
theorem B.mono {H K : Int} {x : Rat} (hx : B H x) (h : H ≤ K) : B K x := by
  have := p2_le h
  unfold B at *
  grind
theorem p2_succ (H : Int) : p2 (H + 1) = 2 * p2 H := by
  rw [p2_add, show (1 : Int) = ((1 : Nat) : Int) by rfl, p2_nat]
  have : ((2 ^ 1 : Nat) : Rat) = 2 := by rfl
  rw [this]; grind
theorem B.add {H : Int} {x y : Rat} (hx : B H x) (hy : B H y) : B (H + 1) (x + y) := by
  unfold B at *
  rw [p2_succ]
  grind
theorem B.neg {H : Int} {x : Rat} (hx : B H x) : B H (-x) := by unfold B at *; grind
theorem B.zero (H : Int) : B H 0 := by have := p2_pos H; unfold B; grind
theorem mul_abs_le {a b x y : Rat} (hx : -a ≤ x ∧ x ≤ a) (hy : -b ≤ y ∧ y ≤ b) : -(a * b) ≤ x * y ∧ x * y ≤ a * b := by
  have h1 := Rat.mul_nonneg (show 0 ≤ a - x by grind) (show 0 ≤ b - y by grind)
  have h2 := Rat.mul_nonneg (show 0 ≤ a + x by grind) (show 0 ≤ b + y by grind)
  have h3 := Rat.mul_nonneg (show 0 ≤ a - x by grind) (show 0 ≤ b + y by grind)
  have h4 := Rat.mul_nonneg (show 0 ≤ a + x by grind) (show 0 ≤ b - y by grind)
  constructor <;> grind
theorem B.mul {H K : Int} {x y : Rat} (hx : B H x) (hy : B K y) : B (H + K) (x * y) := by
  unfold B at *
  rw [p2_add]
  exact mul_abs_le hx hy
/-- A number that is nought or odd. -/
def odd0 (d : D) : Prop := (d.m = 0 → d.e = 0) ∧ (d.m ≠ 0 → d.m % 2 = 1)
theorem WD.odd0 {d : D} (h : WD d) : odd0 d := by
  rcases h.1 with h1 | h1
  · exact ⟨fun _ => h1.2, fun h => absurd h1.1 h⟩
  · exact ⟨fun h => by omega, fun _ => h1.1⟩
theorem G_e {d : D} (ho : odd0 d) (h0 : d.m ≠ 0) {L : Int} (h : G L (val d)) : L ≤ d.e := by
  rcases (show L ≤ d.e ∨ d.e < L by omega) with h1 | h1
  · exact h1
  · exfalso
    obtain ⟨z, hz⟩ := h
    have hp := p2_pos d.e
    have e1 : (d.m : Rat) = ((z * 2 ^ (L - d.e).toNat : Int) : Rat) := by
      unfold val at hz
      rw [p2_diff (show d.e ≤ L by omega), ← Rat.mul_assoc, ← Rat.intCast_mul] at hz
      have := congrArg (· * (p2 d.e)⁻¹) hz
      simp only [Rat.mul_assoc] at this
      rw [Rat.mul_inv_cancel _ (by grind), Rat.mul_one, Rat.mul_one] at this
      exact this
    have e2 : d.m = z * 2 ^ (L - d.e).toNat := by exact_mod_cast e1
    obtain ⟨k, hk⟩ : ∃ k, (L - d.e).toNat = k + 1 := ⟨(L - d.e).toNat - 1, by omega⟩
    rw [hk, Int.pow_succ, ← Int.mul_assoc] at e2
    have := ho.2 h0
    omega
theorem negD_abs (d : D) : (negD d).m.natAbs = d.m.natAbs := by unfold negD; simp
theorem B_size {d : D} (h0 : d.m ≠ 0) {H : Int} (h : B H (val d)) : d.e + (blen d.m.natAbs : Nat) ≤ H + 1 := by
  rcases (show 0 < d.m ∨ d.m < 0 by omega) with h1 | h1
  · have h2 := val_ge_size h1
    have h3 : p2 (d.e + (blen d.m.natAbs : Nat) - 1) ≤ p2 H := by have := h.2; grind
    have := p2_le_iff.1 h3
    omega
  · have h2 := val_ge_size (d := negD d) (by show 0 < -d.m; omega)
    rw [val_neg, negD_abs] at h2
    have h4 : (negD d).e = d.e := rfl
    rw [h4] at h2
    have h3 : p2 (d.e + (blen d.m.natAbs : Nat) - 1) ≤ p2 H := by have := h.1; grind
    have := p2_le_iff.1 h3
    omega
theorem inR_of {d : D} (ho : odd0 d) {L H : Int} (hG : G L (val d)) (hB : B H (val d)) (hL : -60000 ≤ L) (hH : H ≤ 60000) : inR d = true := by
  unfold inR
  by_cases h0 : d.m = 0
  · simp [h0]
  · have h1 := G_e ho h0 hG
    have h2 := B_size h0 hB
    have h3 := blen_pos (n := d.m.natAbs) (by omega)
    have : (d.m == 0) = false := by simp [h0]
    rw [this, Bool.false_or]
    exact decide_eq_true (by omega)
theorem tell_of {d : D} (h : inR d = true) : tell d = (d, 0) := by unfold tell; rw [if_pos h]
structure Okd (d : D) (L H : Int) : Prop where
  w : WD d
  g : G L (val d)
  b : B H (val d)
theorem Okd.mono {d : D} {L H L' H' : Int} (h : Okd d L H) (h1 : L' ≤ L) (h2 : H ≤ H') : Okd d L' H' := ⟨h.w, h.g.mono h1, h.b.mono h2⟩
theorem Okd.neg {d : D} {L H : Int} (h : Okd d L H) : Okd (negD d) L H := ⟨h.w.neg, by rw [val_neg]; exact h.g.neg, by rw [val_neg]; exact h.b.neg⟩
theorem Okd_z (L H : Int) : Okd zD L H := ⟨WD_z, by rw [val_z]; exact G.zero L, by rw [val_z]; exact B.zero H⟩
theorem told_ok {d : D} (ho : odd0 d) {L H : Int} (hG : G L (val d)) (hB : B H (val d)) (hL : -60000 ≤ L) (hH : H ≤ 60000) : tell d = (d, 0) ∧ Okd d L H := by
  have ht := tell_of (inR_of ho hG hB hL hH)
  refine ⟨ht, ⟨?_, hG, hB⟩⟩
  have := WD_tell ho
  rw [ht] at this
  exact this
theorem add_ok {x y : D} {L H : Int} (hx : Okd x L H) (hy : Okd y L H) (hL : -60000 ≤ L) (hH : H + 1 ≤ 60000) : ∃ d, addD x y = (d, 0) ∧ val d = val x + val y ∧ Okd d L (H + 1) := by
  have hv := val_sum x y
  obtain ⟨h1, h2⟩ := told_ok (d := sumD x y) (L := L) (H := H + 1) (sum_ok hx.w hy.w) (by rw [hv]; exact hx.g.add hy.g) (by rw [hv]; exact hx.b.add hy.b) hL hH
  exact ⟨sumD x y, h1, hv, h2⟩
theorem times_ok {x y : D} {L H M K : Int} (hx : Okd x L H) (hy : Okd y M K) (hL : -60000 ≤ L + M) (hH : H + K ≤ 60000) : ∃ d, timesD x y = (d, 0) ∧ val d = val x * val y ∧ Okd d (L + M) (H + K) := by
  have hv := val_mul x y
  obtain ⟨h1, h2⟩ := told_ok (d := mulD x y) (L := L + M) (H := H + K) (nrm_ok _ _) (by rw [hv]; exact hx.g.mul hy.g) (by rw [hv]; exact hx.b.mul hy.b) hL hH
  exact ⟨mulD x y, h1, hv, h2⟩
theorem rnd_G {x : D} {L : Int} (ho : odd0 x) (h : G L (val x)) (p : Nat) (up : Bool) : G L (val (rnd x p up)) := by
  unfold rnd
  rw [val_cut]
  by_cases h0 : x.m = 0
  · have : ∀ b, cutN (x.m).natAbs false p b = 0 := by intro b; rw [h0]; unfold cutN; simp
    rw [this]
    have : sg (decide (x.m < 0)) 0 = 0 := by rw [sg_zero]
    rw [this]
    simp
    exact G.zero L
  · have := G_e ho h0 h
    exact G.of (by omega)
theorem rep_p2 (p : Nat) (H : Int) : rep p (p2 H) := ⟨1, H, by simp, by have := Nat.pow_pos (n := p) (show 0 < 2 by decide); simp; omega⟩
theorem rnd_B {x : D} {H : Int} (h : B H (val x)) {p : Nat} (hp : 1 ≤ p) (up : Bool) : B H (val (rnd x p up)) := by
  have h1 := rnd_down x p
  have h2 := rnd_up x p
  cases up with
  | false =>
    have := rnd_best hp (rep_neg (rep_p2 p H)) h.1
    exact ⟨this, by have := h.2; grind⟩
  | true =>
    have := rnd_best_up hp (rep_p2 p H) h.2
    exact ⟨by have := h.1; grind, this⟩
theorem round_ok {x : D} {L H : Int} (hx : Okd x L H) {p : Nat} (hp : 1 ≤ p) (up : Bool) (hL : -60000 ≤ L) (hH : H ≤ 60000) : roundD x p up = (rnd x p up, 0) ∧ Okd (rnd x p up) L H := by
  rw [roundD_eq]
  exact told_ok (nrm_ok _ _) (rnd_G hx.w.odd0 hx.g p up) (rnd_B hx.b hp up) hL hH
/-- A stretch in bounds. -/
structure OkI (a : I) (L H : Int) : Prop where
  lo : Okd a.lo L H
  hi : Okd a.hi L H
  le : val a.lo ≤ val a.hi
theorem OkI.ok {a : I} {L H : Int} (h : OkI a L H) : okI a := ⟨h.lo.w, h.hi.w, h.le⟩
theorem OkI.mono {a : I} {L H L' H' : Int} (h : OkI a L H) (h1 : L' ≤ L) (h2 : H ≤ H') : OkI a L' H' := ⟨h.lo.mono h1 h2, h.hi.mono h1 h2, h.le⟩
theorem OkI.neg {a : I} {L H : Int} (h : OkI a L H) : OkI (negI a) L H := ⟨h.hi.neg, h.lo.neg, (okI_neg h.ok).2.2⟩
/-- c is what comes of the numbers from u to v, rounded to p bits. -/
structure Enc (p : Nat) (c : I) (u v : Rat) : Prop where
  lo : val c.lo ≤ u
  hi : v ≤ val c.hi
  blo : ∀ q, rep p q → q ≤ u → q ≤ val c.lo
  bhi : ∀ q, rep p q → v ≤ q → val c.hi ≤ q
  rlo : rep p (val c.lo)
  rhi : rep p (val c.hi)
theorem enc_of {x y : D} {p : Nat} (hp : 1 ≤ p) {u v : Rat} (hx : val x = u) (hy : val y = v) : Enc p ⟨rnd x p false, rnd y p true⟩ u v := by
  subst hx; subst hy
  exact ⟨rnd_down x p, rnd_up y p, fun q h1 h2 => rnd_best hp h1 h2, fun q h1 h2 => rnd_best_up hp h1 h2, rnd_rep _ _ _, rnd_rep _ _ _⟩
theorem two_ok {x y : D} {L H : Int} (hx : Okd x L H) (hy : Okd y L H) (hle : val x ≤ val y) {p : Nat} (hp : 1 ≤ p) (hL : -60000 ≤ L) (hH : H ≤ 60000) :
    ∃ c, (bindE (roundD x p false) zI fun lo => bindE (roundD y p true) zI fun hi => ((⟨lo, hi⟩ : I), 0)) = (c, 0) ∧ OkI c L H ∧ Enc p c (val x) (val y) := by
  obtain ⟨r1, o1⟩ := round_ok hx hp false hL hH
  obtain ⟨r2, o2⟩ := round_ok hy hp true hL hH
  refine ⟨⟨rnd x p false, rnd y p true⟩, ?_, ⟨o1, o2, ?_⟩, enc_of hp rfl rfl⟩
  · rw [r1, bindE_ok rfl, r2, bindE_ok rfl]
  · have h1 := rnd_down x p
    have h2 := rnd_up y p
    show val (rnd x p false) ≤ val (rnd y p true)
    grind
theorem addI_ok {a b : I} {L H : Int} (ha : OkI a L H) (hb : OkI b L H) {p : Nat} (hp : 1 ≤ p) (hL : -60000 ≤ L) (hH : H + 1 ≤ 60000) :
    ∃ c, addI p a b = (c, 0) ∧ OkI c L (H + 1) ∧ Enc p c (val a.lo + val b.lo) (val a.hi + val b.hi) := by
  obtain ⟨s, s1, s2, s3⟩ := add_ok ha.lo hb.lo hL hH
  obtain ⟨t, t1, t2, t3⟩ := add_ok ha.hi hb.hi hL hH
  have h1 := ha.le
  have h2 := hb.le
  obtain ⟨c, c1, c2, c3⟩ := two_ok s3 t3 (by grind) hp hL hH
  refine ⟨c, ?_, c2, by rw [← s2, ← t2]; exact c3⟩
  unfold addI
  rw [s1, bindE_ok rfl, t1, ← c1]
  congr 1
theorem outI_ok {a : I} {L H : Int} (ha : OkI a L H) {p : Nat} (hp : 1 ≤ p) (hL : -60000 ≤ L) (hH : H ≤ 60000) :
    ∃ c, outI p a = (c, 0) ∧ OkI c L H ∧ Enc p c (val a.lo) (val a.hi) := two_ok ha.lo ha.hi ha.le hp hL hH
theorem wideI_ok {a : I} {L H : Int} (ha : OkI a L H) {d : D} (hd : Okd d L H) (hd0 : 0 ≤ val d) {p : Nat} (hp : 1 ≤ p) (hL : -60000 ≤ L) (hH : H + 1 ≤ 60000) :
    ∃ c, wideI p a d = (c, 0) ∧ OkI c L (H + 1) ∧ Enc p c (val a.lo - val d) (val a.hi + val d) := by
  obtain ⟨s, s1, s2, s3⟩ := add_ok ha.lo hd.neg hL hH
  obtain ⟨t, t1, t2, t3⟩ := add_ok ha.hi hd hL hH
  rw [val_neg] at s2
  have h1 := ha.le
  obtain ⟨c, c1, c2, c3⟩ := two_ok s3 t3 (by grind) hp hL hH
  refine ⟨c, ?_, c2, by rw [← t2, show val a.lo - val d = val s by rw [s2]; grind]; exact c3⟩
  unfold wideI
  rw [s1, bindE_ok rfl, t1, ← c1]
  congr 1
theorem minD_Ok {x y : D} {L H : Int} (hx : Okd x L H) (hy : Okd y L H) : Okd (minD x y) L H := by unfold minD; split <;> assumption
theorem maxD_Ok {x y : D} {L H : Int} (hx : Okd x L H) (hy : Okd y L H) : Okd (maxD x y) L H := by unfold maxD; split <;> assumption
theorem min4_le (a b c d : D) : val (min4 a b c d) ≤ val a ∧ val (min4 a b c d) ≤ val b ∧ val (min4 a b c d) ≤ val c ∧ val (min4 a b c d) ≤ val d := by
  have h1 := minD_le a b
  have h2 := minD_le (minD a b) c
  have h3 := minD_le (minD (minD a b) c) d
  unfold min4
  grind
theorem max4_ge (a b c d : D) : val a ≤ val (max4 a b c d) ∧ val b ≤ val (max4 a b c d) ∧ val c ≤ val (max4 a b c d) ∧ val d ≤ val (max4 a b c d) := by
  have h1 := maxD_ge a b
  have h2 := maxD_ge (maxD a b) c
  have h3 := maxD_ge (maxD (maxD a b) c) d
  unfold max4
  grind
theorem min4_mem (a b c d : D) : val (min4 a b c d) = val a ∨ val (min4 a b c d) = val b ∨ val (min4 a b c d) = val c ∨ val (min4 a b c d) = val d := by
  unfold min4
  rcases minD_val (minD (minD a b) c) d with h | h
  · rw [h.1]
    rcases minD_val (minD a b) c with h | h
    · rw [h.1]
      rcases minD_val a b with h | h
      · rw [h.1]; left; rfl
      · rw [h.1]; right; left; rfl
    · rw [h.1]; right; right; left; rfl
  · rw [h.1]; right; right; right; rfl
theorem max4_mem (a b c d : D) : val (max4 a b c d) = val a ∨ val (max4 a b c d) = val b ∨ val (max4 a b c d) = val c ∨ val (max4 a b c d) = val d := by
  unfold max4
  rcases maxD_val (maxD (maxD a b) c) d with h | h
  · rw [h.1]
    rcases maxD_val (maxD a b) c with h | h
    · rw [h.1]
      rcases maxD_val a b with h | h
      · rw [h.1]; left; rfl
      · rw [h.1]; right; left; rfl
    · rw [h.1]; right; right; left; rfl
  · rw [h.1]; right; right; right; rfl
/-- The least and the greatest product of two stretches' ends. -/
structure Prod (a b : I) (u v : Rat) : Prop where
  h1 : u ≤ val a.lo * val b.lo ∧ val a.lo * val b.lo ≤ v
  h2 : u ≤ val a.lo * val b.hi ∧ val a.lo * val b.hi ≤ v
  h3 : u ≤ val a.hi * val b.lo ∧ val a.hi * val b.lo ≤ v
  h4 : u ≤ val a.hi * val b.hi ∧ val a.hi * val b.hi ≤ v
  mu : u = val a.lo * val b.lo ∨ u = val a.lo * val b.hi ∨ u = val a.hi * val b.lo ∨ u = val a.hi * val b.hi
  mv : v = val a.lo * val b.lo ∨ v = val a.lo * val b.hi ∨ v = val a.hi * val b.lo ∨ v = val a.hi * val b.hi
theorem mulI_ok {a b : I} {L H M K : Int} (ha : OkI a L H) (hb : OkI b M K) {p : Nat} (hp : 1 ≤ p) (hL : -60000 ≤ L + M) (hH : H + K ≤ 60000) :
    ∃ c u v, mulI p a b = (c, 0) ∧ OkI c (L + M) (H + K) ∧ Enc p c u v ∧ Prod a b u v := by
  obtain ⟨q1, e1, v1, o1⟩ := times_ok ha.lo hb.lo hL hH
  obtain ⟨q2, e2, v2, o2⟩ := times_ok ha.lo hb.hi hL hH
  obtain ⟨q3, e3, v3, o3⟩ := times_ok ha.hi hb.lo hL hH
  obtain ⟨q4, e4, v4, o4⟩ := times_ok ha.hi hb.hi hL hH
  have m1 := min4_le q1 q2 q3 q4
  have m2 := max4_ge q1 q2 q3 q4
  have omin : Okd (min4 q1 q2 q3 q4) (L + M) (H + K) := minD_Ok (minD_Ok (minD_Ok o1 o2) o3) o4
  have omax : Okd (max4 q1 q2 q3 q4) (L + M) (H + K) := maxD_Ok (maxD_Ok (maxD_Ok o1 o2) o3) o4
  obtain ⟨c, c1, c2, c3⟩ := two_ok omin omax (by grind) hp hL hH
  refine ⟨c, _, _, ?_, c2, c3, ?_⟩
  · unfold mulI four4
    rw [e1, bindE_ok rfl, e2, bindE_ok rfl, e3, bindE_ok rfl, e4, bindE_ok rfl]
    exact c1
  · have n1 := min4_mem q1 q2 q3 q4
    have n2 := max4_mem q1 q2 q3 q4
    rw [v1, v2, v3, v4] at *
    exact ⟨⟨m1.1, m2.1⟩, ⟨m1.2.1, m2.2.1⟩, ⟨m1.2.2.1, m2.2.2.1⟩, ⟨m1.2.2.2, m2.2.2.2⟩, n1, n2⟩
theorem line_le {l h x y q : Rat} (h1 : l ≤ x) (h2 : x ≤ h) (h3 : q ≤ l * y) (h4 : q ≤ h * y) : q ≤ x * y := by
  rcases (show 0 ≤ y ∨ y ≤ 0 by grind) with hy | hy
  · have := Rat.mul_le_mul_of_nonneg_right h1 hy; grind
  · have := Rat.mul_le_mul_of_nonneg_right h2 (show 0 ≤ -y by grind); grind
theorem line_ge {l h x y q : Rat} (h1 : l ≤ x) (h2 : x ≤ h) (h3 : l * y ≤ q) (h4 : h * y ≤ q) : x * y ≤ q := by
  rcases (show 0 ≤ y ∨ y ≤ 0 by grind) with hy | hy
  · have := Rat.mul_le_mul_of_nonneg_right h2 hy; grind
  · have := Rat.mul_le_mul_of_nonneg_right h1 (show 0 ≤ -y by grind); grind
theorem Prod.in {a b : I} {u v : Rat} (h : Prod a b u v) {x y : Rat} (hx : val a.lo ≤ x ∧ x ≤ val a.hi) (hy : val b.lo ≤ y ∧ y ≤ val b.hi) : u ≤ x * y ∧ x * y ≤ v := by
  have c : ∀ s t : Rat, s * t = t * s := fun s t => Rat.mul_comm s t
  have l1 : u ≤ val a.lo * y := by rw [c]; exact line_le hy.1 hy.2 (by rw [c]; exact h.h1.1) (by rw [c]; exact h.h2.1)
  have l2 : u ≤ val a.hi * y := by rw [c]; exact line_le hy.1 hy.2 (by rw [c]; exact h.h3.1) (by rw [c]; exact h.h4.1)
  have l3 : val a.lo * y ≤ v := by rw [c]; exact line_ge hy.1 hy.2 (by rw [c]; exact h.h1.2) (by rw [c]; exact h.h2.2)
  have l4 : val a.hi * y ≤ v := by rw [c]; exact line_ge hy.1 hy.2 (by rw [c]; exact h.h3.2) (by rw [c]; exact h.h4.2)
  exact ⟨line_le hx.1 hx.2 l1 l2, line_ge hx.1 hx.2 l3 l4⟩
instance : DecidableEq I := fun x y =>
  if h : x.lo = y.lo ∧ x.hi = y.hi then isTrue (by cases x; cases y; simp only at h; rw [h.1, h.2]) else isFalse (fun e => h (by rw [e]; exact ⟨rfl, rfl⟩))
theorem wf_u32 {a : Int} (h : (Lit.int .u32 a).wf = true) : 0 ≤ a ∧ a < 4294967296 := by
  simp [Lit.wf, IntKind.min, IntKind.max, IntKind.signed, IntKind.bits] at h
  omega
theorem wf_i64 {a : Int} (h : (Lit.int .i64 a).wf = true) : -9223372036854775808 ≤ a ∧ a ≤ 9223372036854775807 := by
  simp [Lit.wf, IntKind.min, IntKind.max, IntKind.signed, IntKind.bits] at h
  omega
theorem g_dig {x : ApiDy} (h : gApiDy x) : Dig x.M.Mag := fun d hd => wf_u32 (h.1.2.2 d hd)
theorem g_e {x : ApiDy} (h : gApiDy x) : -9223372036854775808 ≤ x.E ∧ x.E ≤ 9223372036854775807 := wf_i64 h.2
theorem ivNew_eq {p : Nat} (hp : 2 ≤ p ∧ p ≤ 400) : iv_New (p : Int) = some (Sum.inr (0, 0, (p : Int))) := by
  unfold iv_New iv_New_j1
  rw [if_neg (by omega), if_neg (by simp; omega)]
theorem same_eq {x y : I} (hx : okI x) : astrolaberef06_Same (iv x) (iv y) = some (decide (x = y)) := by
  unfold astrolaberef06_Same astrolaberef06_Same_j1
  rw [ivLo, ivLo, ivHi, ivHi, same5_eq hx.1.sz, same5_eq hx.2.1.sz]
  simp only [obind]
  have ext : x = y ↔ x.lo = y.lo ∧ x.hi = y.hi := by
    constructor
    · rintro rfl; exact ⟨rfl, rfl⟩
    · intro h; cases x; cases y; simp only at h; rw [h.1, h.2]
  by_cases h : x.lo = y.lo
  · rw [if_pos (by simpa using h)]
    congr 1
    apply decide_eq_decide.2
    rw [ext]; simp [h]
  · rw [if_neg (by simpa using h)]
    congr 1; symm; apply decide_eq_false
    rintro rfl; exact h rfl
theorem same06_eq {x y : I} (hx : okI x) : astrolabelaw06_same (iv x) (iv y) = some (decide (x = y)) := by
  unfold astrolabelaw06_same
  rw [same_eq hx]; rfl
theorem wrap_low (a : Int) (h : -9223372036854775808 ≤ a ∧ a < 0) : IntKind.i64.wrap (0 - IntKind.i64.wrap (a + 1)) = ((-(a + 1)).toNat : Int) := by
  rw [w64 (x := a + 1) (by omega) (by omega), w64 (by omega) (by omega)]; omega
theorem prec06_eq {a : Int} (h : -9223372036854775808 ≤ a ∧ a ≤ 9223372036854775807) : ∃ p : Nat, astrolabelaw06_prec a = some (p : Int) ∧ 2 ≤ p ∧ p ≤ 150 := by
  unfold astrolabelaw06_prec astrolabelaw06_prec_j1
  have key : ∀ n : Nat, ∃ p : Nat, (some (IntKind.i64.wrap (2 + ((n : Int).tmod 149))) : Option Int) = some (p : Int) ∧ 2 ≤ p ∧ p ≤ 150 := by
    intro n
    rw [show (149 : Int) = ((149 : Nat) : Int) by rfl, tmodn, w64 (by omega) (by omega)]
    exact ⟨2 + n % 149, by congr 1, by omega, by omega⟩
  by_cases h0 : a < 0
  · rw [if_pos h0, wrap_low a (by omega)]
    exact key _
  · rw [if_neg h0]
    have := key a.toNat
    rwa [Int.toNat_of_nonneg (by omega)] at this
theorem tame_val {m e : Int} (hm : blen m.natAbs ≤ 128) (he : -90 ≤ e ∧ e ≤ 90) : ∃ d, makeD m e = (d, true) ∧ Okd d (-90) 218 := by
  have hv := val_nrm m e
  have hg : G (-90) (val (nrm m e)) := by rw [hv]; exact G.of (by omega)
  have hb : B 218 (val (nrm m e)) := by
    rw [hv]
    have h1 := blen_lt m.natAbs
    have h2 : m.natAbs ≤ 2 ^ 128 := by
      have : 2 ^ blen m.natAbs ≤ 2 ^ 128 := Nat.pow_le_pow_right (by decide) hm
      omega
    have h3 := rep_bound h2 e
    have h4 := p2_le (show e + ((128 : Nat) : Int) ≤ 218 by omega)
    have hp := p2_pos e
    have h5 : (m : Rat) ≤ (m.natAbs : Rat) ∧ -(m.natAbs : Rat) ≤ (m : Rat) := by
      have e1 := intCast_le (show m ≤ (m.natAbs : Int) by omega)
      have e2 := intCast_le (show -(m.natAbs : Int) ≤ m by omega)
      rw [Rat.intCast_natCast] at e1
      rw [Rat.intCast_neg, Rat.intCast_natCast] at e2
      exact ⟨e1, e2⟩
    have h6 := Rat.mul_le_mul_of_nonneg_right h5.1 (Rat.le_of_lt hp)
    have h7 := Rat.mul_le_mul_of_nonneg_right h5.2 (Rat.le_of_lt hp)
    unfold B
    grind
  obtain ⟨h1, h2⟩ := told_ok (d := nrm m e) (nrm_ok _ _) hg hb (by omega) (by omega)
  refine ⟨nrm m e, ?_, h2⟩
  unfold makeD
  rw [if_pos (inR_of (nrm_ok _ _) hg hb (by omega) (by omega))]
theorem tame06_eq {x : ApiDy} (hx : gApiDy x) : ∃ d, astrolabelaw06_tame x = some (dy d) ∧ Okd d (-90) 218 := by
  have hd := g_dig hx
  have he := g_e hx
  have hml : x.M.Mag.length ≤ 9223372036854775807 := by have := hx.1.2.1; unfold maxLen at this; omega
  have hm : mn (x.M.Mag.length : Int) 4 = ((min x.M.Mag.length 4 : Nat) : Int) := by unfold mn; split <;> omega
  have hb : blen (sg x.M.Neg (dval (x.M.Mag.take (min x.M.Mag.length 4)))).natAbs ≤ 128 := by
    rw [sg_abs']
    have := blen_of_len (dig_take hd (min x.M.Mag.length 4))
    rw [List.length_take] at this
    omega
  have key : ∀ n : Nat, ∃ d, astrolabelaw06_tame_j1 x (n : Int) = some (dy d) ∧ Okd d (-90) 218 := by
    intro n
    obtain ⟨d, h1, h2⟩ := tame_val hb (e := ((n % 181 : Nat) : Int) - 90) (by omega)
    refine ⟨d, ?_, h2⟩
    unfold astrolabelaw06_tame_j1
    rw [hm, if_pos (by omega), Int.toNat_natCast, rMake_eq (dig_take hd _) (by rw [List.length_take]; omega)]
    simp only [obind]
    rw [show (181 : Int) = ((181 : Nat) : Int) by rfl, tmodn, w64 (by omega) (by omega), rMake5_eq (by unfold SZ; omega) (by omega), h1]
    rfl
  unfold astrolabelaw06_tame
  by_cases h0 : x.E < 0
  · rw [if_pos h0, wrap_low _ (by omega)]
    exact key _
  · rw [if_neg h0]
    have := key x.E.toNat
    rwa [Int.toNat_of_nonneg (by omega)] at this
theorem span06_eq {x y : ApiDy} (hx : gApiDy x) (hy : gApiDy y) : ∃ a, astrolabelaw06_span x y = some (iv a) ∧ OkI a (-90) 218 := by
  obtain ⟨c, h1, h2⟩ := tame06_eq hx
  obtain ⟨d, h3, h4⟩ := tame06_eq hy
  unfold astrolabelaw06_span astrolabelaw06_span_j1
  rw [h1, h3]
  simp only [obind]
  rw [rCmp5_eq h2.w h4.w]
  simp only [obind]
  by_cases h : 0 < cmpD c d
  · rw [if_pos h]
    have := (cmpD_gt c d).1 h
    exact ⟨⟨d, c⟩, rfl, h4, h2, by show val d ≤ val c; grind⟩
  · rw [if_neg h]
    have := mt (cmpD_gt c d).2 h
    exact ⟨⟨c, d⟩, rfl, h2, h4, by show val c ≤ val d; grind⟩
theorem five_eq : (⟨⟨⟨false, [5]⟩, (-4)⟩, ⟨⟨false, [11]⟩, (-5)⟩⟩ : ApiIv) = iv ⟨⟨5, -4⟩, ⟨11, -5⟩⟩ := by
  have d5 : digs 5 = [5] := digs_of (l := [5]) (by intro d hd; have : d = 5 := by simpa using hd
                                                   omega) (by simp)
  have d11 : digs 11 = [11] := digs_of (l := [11]) (by intro d hd; have : d = 11 := by simpa using hd
                                                       omega) (by simp)
  unfold iv dy iOf
  simp only
  rw [show (5 : Int).natAbs = 5 by rfl, show (11 : Int).natAbs = 11 by rfl, d5, d11]
  rfl
theorem okI_int {n : Int} (hn : -9223372036854775808 ≤ n ∧ n ≤ 9223372036854775807) : okI (intI n) := okI_point (WD_from hn)
theorem WD_dec {d : D} (h : (decide (d.m % 2 = 1) && decide (-131072 ≤ d.e) && decide (d.e ≤ 131072) && decide (blen d.m.natAbs ≤ 262144)) = true) : WD d := by
  simp only [Bool.and_eq_true, decide_eq_true_eq] at h
  exact ⟨Or.inr ⟨h.1.1.1, h.1.1.2, h.1.2⟩, h.2⟩
theorem examples06 : astrolabelaw06_examples = some true := by
  have hd : divI 4 (intI 1) (intI 3) = (⟨⟨5, -4⟩, ⟨11, -5⟩⟩, 0) := by decide +kernel
  have hW1 : WD ⟨5, -4⟩ := WD_dec (by decide +kernel)
  have hW2 : WD ⟨11, -5⟩ := WD_dec (by decide +kernel)
  have hc : cmpD ⟨5, -4⟩ ⟨11, -5⟩ ≤ 0 := by decide +kernel
  have hok : okI ⟨⟨5, -4⟩, ⟨11, -5⟩⟩ := ⟨hW1, hW2, (cmpD_le _ _).1 hc⟩
  unfold astrolabelaw06_examples astrolabelaw06_examples_j1
  have hN := ivNew_eq (p := 4) (by omega)
  rw [show ((4 : Nat) : Int) = 4 by rfl] at hN
  rw [hN]
  simp only [obind]
  rw [if_neg (by simp), ivInt_eq (by omega), st_zero]
  simp only [obind]
  rw [ivInt_eq (by omega), st_zero]
  simp only [obind]
  have hD := ivDiv_eq (okI_int (n := 1) (by omega)) (okI_int (n := 3) (by omega)) (p := 4) (by omega) 0
  rw [show ((4 : Nat) : Int) = 4 by rfl] at hD
  rw [hD, st_zero, hd]
  simp only [obind]
  rw [five_eq, same06_eq hok]
  simp only [obind]
  unfold iv_trouble_Err iv_Calc_Prec
  rw [if_pos (by simp)]
  simp only [obind, if_true]
  have hh : hasI ⟨⟨5, -4⟩, ⟨11, -5⟩⟩ ⟨5, -4⟩ = true := by decide +kernel
  have := ivHas_eq hok (x := ⟨5, -4⟩) hW1
  rw [hh] at this
  refine Eq.trans (congrArg (fun o => Option.bind o _) this) ?_
  rfl
theorem inI_true {a b : I} (h1 : val b.lo ≤ val a.lo) (h2 : val a.hi ≤ val b.hi) (h3 : val a.lo ≤ val a.hi) : inI a b = true := by
  unfold inI
  rw [Bool.and_eq_true]
  exact ⟨(hasI_iff b a.lo).2 ⟨h1, by grind⟩, (hasI_iff b a.hi).2 ⟨by grind, h2⟩⟩
theorem iv_in_true {a b : I} (ha : okI a) (hb : okI b) (h1 : val b.lo ≤ val a.lo) (h2 : val a.hi ≤ val b.hi) : iv_In (iv a) (iv b) = some true := by
  rw [ivIn_eq ha hb, inI_true h1 h2 ha.2.2]
/-- The hull of two. -/
theorem hull_two {a b : I} {L H : Int} (ha : OkI a L H) (hb : OkI b L H) : OkI (hullI [a, b]) L H ∧ val (hullI [a, b]).lo ≤ val a.lo ∧ val (hullI [a, b]).lo ≤ val b.lo ∧ val a.hi ≤ val (hullI [a, b]).hi ∧ val b.hi ≤ val (hullI [a, b]).hi := by
  have e1 : (hullI [a, b]).lo = min4 a.lo a.hi b.lo b.hi := rfl
  have e2 : (hullI [a, b]).hi = max4 a.lo a.hi b.lo b.hi := rfl
  have m1 := min4_le a.lo a.hi b.lo b.hi
  have m2 := max4_ge a.lo a.hi b.lo b.hi
  have h1 := ha.le
  refine ⟨⟨?_, ?_, ?_⟩, ?_⟩
  · rw [e1]; exact minD_Ok (minD_Ok (minD_Ok ha.lo ha.hi) hb.lo) hb.hi
  · rw [e2]; exact maxD_Ok (maxD_Ok (maxD_Ok ha.lo ha.hi) hb.lo) hb.hi
  · rw [e1, e2]; grind
  · rw [e1, e2]; grind
theorem Enc.sub {p : Nat} {c d : I} {u v u' v' : Rat} (hc : Enc p c u v) (hd : Enc p d u' v') (h1 : u' ≤ u) (h2 : v ≤ v') : val d.lo ≤ val c.lo ∧ val c.hi ≤ val d.hi := by
  constructor
  · refine hc.blo _ hd.rlo ?_
    have := hd.lo; grind
  · refine hc.bhi _ hd.rhi ?_
    have := hd.hi; grind
theorem IvParts_true (a0 : ApiDy) (g0 : gApiDy a0) (a1 : ApiDy) (g1 : gApiDy a1) (a2 : ApiDy) (g2 : gApiDy a2) (a3 : ApiDy) (g3 : gApiDy a3) (a4 : Int) (g4 : (Lit.int .i64 a4).wf = true) : astrolabelaw06_IvParts a0 a1 a2 a3 a4 = some true := by
  obtain ⟨p, hp1, hp2, hp3⟩ := prec06_eq (wf_i64 g4)
  obtain ⟨a, ha1, ha⟩ := span06_eq g0 g1
  obtain ⟨b, hb1, hb⟩ := span06_eq g2 g3
  have hpp : 2 ≤ p ∧ p ≤ 400 := by omega
  have hp0 : 1 ≤ p := by omega
  obtain ⟨hu, u1, u2, u3, u4⟩ := hull_two ha hb
  have hHull := ivHull_eq (l := [a, b]) (by simp) (by
    intro x hx
    have : x = a ∨ x = b := by simpa using hx
    rcases this with rfl | rfl
    · exact ha.ok
    · exact hb.ok) (by simp) 0 (p : Int)
  rw [st_zero] at hHull
  generalize hullI [a, b] = U at *
  have hble := hb.le
  have hale := ha.le
  obtain ⟨f, s, t, f1, f2, f3, f4⟩ := mulI_ok ha ha hp0 (by omega) (by omega)
  obtain ⟨g, s', t', k1, k2, k3, k4⟩ := mulI_ok hu hu hp0 (by omega) (by omega)
  have inMul : iv_In (iv f) (iv g) = some true := by
    have hmem : s' ≤ s ∧ t ≤ t' := by
      have m1 := f4.mu
      have m2 := f4.mv
      have w1 := k4.in (x := val a.lo) (y := val a.lo) (by grind) (by grind)
      have w2 := k4.in (x := val a.lo) (y := val a.hi) (by grind) (by grind)
      have w3 := k4.in (x := val a.hi) (y := val a.lo) (by grind) (by grind)
      have w4 := k4.in (x := val a.hi) (y := val a.hi) (by grind) (by grind)
      grind
    have := f3.sub k3 hmem.1 hmem.2
    exact iv_in_true f2.ok k2.ok this.1 this.2
  obtain ⟨c, c1, c2, c3⟩ := addI_ok ha hb hp0 (by omega) (by omega)
  obtain ⟨d, d1, d2, d3⟩ := addI_ok hu hu hp0 (by omega) (by omega)
  have inAdd : iv_In (iv c) (iv d) = some true := by
    have := c3.sub d3 (by grind) (by grind)
    exact iv_in_true c2.ok d2.ok this.1 this.2
  have n1 : val (negI a).lo = -val a.hi := val_neg _
  have n2 : val (negI a).hi = -val a.lo := val_neg _
  have n3 : val (negI U).lo = -val U.hi := val_neg _
  have n4 : val (negI U).hi = -val U.lo := val_neg _
  have inNeg : iv_In (iv (negI a)) (iv (negI U)) = some true := iv_in_true ha.neg.ok hu.neg.ok (by grind) (by grind)
  obtain ⟨o, o1, o2, o3⟩ := outI_ok ha hp0 (by omega) (by omega)
  obtain ⟨q, q1, q2, q3⟩ := outI_ok hu hp0 (by omega) (by omega)
  have inOut : iv_In (iv o) (iv q) = some true := by
    have := o3.sub q3 (by grind) (by grind)
    exact iv_in_true o2.ok q2.ok this.1 this.2
  have in1 : iv_In (iv a) (iv U) = some true := iv_in_true ha.ok hu.ok u1 u3
  have in2 : iv_In (iv b) (iv U) = some true := iv_in_true hb.ok hu.ok u2 u4
  have in3 : iv_In (iv a) (iv o) = some true := iv_in_true ha.ok o2.ok o3.lo o3.hi
  have hz0 : (0 : Rat) ≤ val zD := by rw [val_z]; exact Rat.le_refl
  obtain ⟨w, w1, w2, w3⟩ := wideI_ok ha (Okd_z (-90) 218) hz0 hp0 (by omega) (by omega)
  have in4 : iv_In (iv a) (iv w) = some true := by
    have l1 := w3.lo
    have l2 := w3.hi
    rw [val_z] at l1 l2
    exact iv_in_true ha.ok w2.ok (by grind) (by grind)
  have eMul1 := ivMul_eq ha.ok ha.ok hpp 0
  have eMul2 := ivMul_eq hu.ok hu.ok hpp 0
  have eAdd1 := ivAdd_eq ha.ok hb.ok hpp 0
  have eAdd2 := ivAdd_eq hu.ok hu.ok hpp 0
  have eNeg1 := ivNeg_eq ha.ok 0 (p : Int)
  have eNeg2 := ivNeg_eq hu.ok 0 (p : Int)
  have eOut1 := ivOut_eq ha.ok hpp 0
  have eOut2 := ivOut_eq hu.ok hpp 0
  have eWide := ivWide_eq ha.ok WD_z hz0 hpp 0
  have eMeet := ivMeet_eq ha.ok hb.ok 0 (p : Int)
  rw [st_zero] at eMul1 eMul2 eAdd1 eAdd2 eNeg1 eNeg2 eOut1 eOut2 eWide eMeet
  rw [f1] at eMul1
  rw [k1] at eMul2
  rw [c1] at eAdd1
  rw [d1] at eAdd2
  rw [o1] at eOut1
  rw [q1] at eOut2
  rw [w1, dy_z] at eWide
  -- what both have in common
  have cm1 := cmpD_lt a.hi b.lo
  have cm2 := cmpD_lt b.hi a.lo
  have eC1 : dyad_Cmp (iv a).Hi (iv b).Lo = some (cmpD a.hi b.lo) := dyad_Cmp_eq ha.hi.w hb.lo.w
  have eC2 : dyad_Cmp (iv b).Hi (iv a).Lo = some (cmpD b.hi a.lo) := dyad_Cmp_eq hb.hi.w ha.lo.w
  have hmx := maxD_ge a.lo b.lo
  have hmn := minD_le a.hi b.hi
  have hgt := cmpD_gt (maxD a.lo b.lo) (minD a.hi b.hi)
  have hmx2 : val (maxD a.lo b.lo) = val a.lo ∨ val (maxD a.lo b.lo) = val b.lo := by
    rcases maxD_val a.lo b.lo with h | h <;> rw [h.1] <;> simp
  have hmn2 : val (minD a.hi b.hi) = val a.hi ∨ val (minD a.hi b.hi) = val b.hi := by
    rcases minD_val a.hi b.hi with h | h <;> rw [h.1] <;> simp
  have hM : okI (meetI a b).1 := by
    unfold meetI
    by_cases h : 0 < cmpD (maxD a.lo b.lo) (minD a.hi b.hi)
    · rw [if_pos h]; exact okI_z
    · rw [if_neg h]
      refine ⟨maxD_WD ha.lo.w hb.lo.w, minD_WD ha.hi.w hb.hi.w, ?_⟩
      have := mt hgt.2 h
      show val (maxD a.lo b.lo) ≤ val (minD a.hi b.hi)
      grind
  have eI1 := ivIn_eq hM ha.ok
  have eI2 := ivIn_eq hM hb.ok
  unfold astrolabelaw06_IvParts
  rw [examples06]
  simp only [obind]
  rw [if_neg (by simp), hp1]
  simp only [obind]
  rw [ivNew_eq hpp]
  simp only [obind]
  rw [if_neg (by simp), ha1, hb1]
  simp only [obind]
  have hl : [iv a, iv b] = [a, b].map iv := rfl
  rw [hl, hHull]
  simp only [obind]
  rw [eMul1]
  simp only [obind]
  rw [eMul2]
  simp only [obind]
  rw [inMul]
  simp only [obind, if_true]
  rw [eAdd1]
  simp only [obind]
  rw [eAdd2]
  simp only [obind]
  rw [inAdd]
  simp only [obind, if_true]
  rw [eNeg1]
  simp only [obind]
  rw [eNeg2]
  simp only [obind]
  rw [inNeg]
  simp only [obind, if_true]
  rw [eOut1]
  simp only [obind]
  rw [eOut2]
  simp only [obind]
  rw [inOut]
  simp only [obind]
  unfold astrolabelaw06_IvParts_j1
  simp only
  rw [in1]
  simp only [obind, if_true]
  rw [in2]
  simp only [obind, if_true]
  rw [eOut1]
  simp only [obind]
  rw [in3]
  simp only [obind, if_true]
  rw [eWide]
  simp only [obind]
  rw [in4]
  simp only [obind]
  unfold astrolabelaw06_IvParts_j2 astrolabelaw06_IvParts_j3 iv_trouble_Err
  simp only [obind]
  rw [eMeet]
  simp only [obind]
  rw [eI1]
  simp only [obind]
  rw [eI2]
  simp only [obind]
  rw [eC1]
  simp only [obind]
  rw [eC2]
  simp only [obind]
  unfold astrolabelaw06_IvParts_j4 astrolabelaw06_IvParts_j5 iv_trouble_Err
  by_cases h : 0 < cmpD (maxD a.lo b.lo) (minD a.hi b.hi)
  · have hv := hgt.1 h
    have hm : meetI a b = (zI, 5) := by unfold meetI; rw [if_pos h]
    rw [hm]
    by_cases h1 : cmpD a.hi b.lo < 0
    · simp [h1]
    · have : cmpD b.hi a.lo < 0 := cm2.2 (by have := mt cm1.2 h1; grind)
      simp [this]
  · have hv := mt hgt.2 h
    have hm : meetI a b = (⟨maxD a.lo b.lo, minD a.hi b.hi⟩, 0) := by unfold meetI; rw [if_neg h]
    have h1 : ¬ cmpD a.hi b.lo < 0 := fun h2 => by have := cm1.1 h2; grind
    have h2 : ¬ cmpD b.hi a.lo < 0 := fun h2 => by have := cm2.1 h2; grind
    have hle : val (maxD a.lo b.lo) ≤ val (minD a.hi b.hi) := by grind
    have i1 : inI (meetI a b).1 a = true := by rw [hm]; exact inI_true hmx.1 hmn.1 hle
    have i2 : inI (meetI a b).1 b = true := by rw [hm]; exact inI_true hmx.2 hmn.2 hle
    rw [i1, i2, hm]
    simp [h1, h2]
end Go.Proofs.YtpmpcohbpankaaaGreat.Gen
