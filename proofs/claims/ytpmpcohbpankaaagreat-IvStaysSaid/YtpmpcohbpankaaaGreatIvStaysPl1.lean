/- Plain theory of the numbers that the statement speaks of: printed from the proofs' own texts, as far as this statement needs it. -/
import Derived.Test.YtpmpcohbpankaaaGreatIvStaysPl0
namespace Go.Proofs.YtpmpcohbpankaaaGreat.Gen
open Go Go.Abs Go.Plain
theorem rCmp_loop {a b : List Int} (ha : Dig a) (hb : Dig b) : ∀ (k : Nat), k ≤ 1099511627776 → dval (a.drop k) = dval (b.drop k) → ∀ f, k < f → astrolaberef01_Cmp_l2 a b f ((k : Int) - 1) = some (if dval a < dval b then -1 else if dval b < dval a then 1 else 0) := by
  intro k
  induction k with
  | zero =>
    intro _ hv f hf
    obtain ⟨f, rfl⟩ : ∃ k, f = k + 1 := ⟨f - 1, by omega⟩
    rw [List.drop_zero, List.drop_zero] at hv
    rw [astrolaberef01_Cmp_l2, if_neg (by omega), if_neg (by omega), if_neg (by omega)]; rfl
  | succ k ih =>
    intro hk hv f hf
    obtain ⟨f, rfl⟩ : ∃ k, f = k + 1 := ⟨f - 1, by omega⟩
    obtain ⟨x, hx, hx'⟩ := digN ha k
    obtain ⟨y, hy, hy'⟩ := digN hb k
    have ea : dval (a.drop k) = x + 4294967296 * dval (a.drop (k + 1)) := by rw [dval_drop a k, hx, Int.toNat_natCast]
    have eb : dval (b.drop k) = y + 4294967296 * dval (b.drop (k + 1)) := by rw [dval_drop b k, hy, Int.toNat_natCast]
    have hk' : ((k + 1 : Nat) : Int) - 1 = (k : Int) := by omega
    rw [astrolaberef01_Cmp_l2, hk', if_pos (by omega), rat_eq ha, rat_eq hb]
    simp only [obind]
    rw [hx, hy]
    by_cases h1 : x < y
    · have := lt_of_drop (a := a) (b := b) ha (i := k) (by omega)
      rw [if_pos (by omega), if_pos this]
    · rw [if_neg (by omega)]
      by_cases h2 : y < x
      · have := lt_of_drop (a := b) (b := a) hb (i := k) (by omega)
        rw [if_pos (by omega), if_neg (by omega), if_pos this]
      · rw [if_neg (by omega), w64 (by omega) (by omega)]
        exact ih (by omega) (by omega) f (by omega)
theorem rCmp_eq {a b : List Int} (ha : Dig a) (hb : Dig b) (hl : a.length ≤ 1073741824) (hl' : b.length ≤ 1073741824) : astrolaberef01_Cmp a b = some (if dval a < dval b then -1 else if dval b < dval a then 1 else 0) := by
  unfold astrolaberef01_Cmp
  have hm : mx (a.length : Int) (b.length : Int) = ((max a.length b.length : Nat) : Int) := by unfold mx; split <;> omega
  rw [hm, w64 (by omega) (by omega)]
  exact rCmp_loop ha hb _ (by omega) (by rw [List.drop_eq_nil_of_le (by omega), List.drop_eq_nil_of_le (by omega)]) fuel (by unfold fuel; omega)
theorem shlr_alg {D Q W V S d c v : Nat} (h : D + Q * W * c = Q * (V * S)) (hv : v = d * S + c) : D + Q * W * v = Q * ((V + W * d) * S) := by
  subst hv
  have e1 : Q * ((V + W * d) * S) = Q * (V * S) + Q * W * (d * S) := by
    rw [Nat.add_mul, Nat.mul_add]; simp [Nat.mul_assoc]
  rw [e1, Nat.mul_add]; omega
theorem snoc_eq {p : List Int} {i v hi t : Nat} (hp : p.length = i) (h : dval p + 4294967296 ^ i * v = t) (hv : v = v % 4294967296 + 4294967296 * hi) : dval (p ++ [((v % 4294967296 : Nat) : Int)]) + 4294967296 ^ (i + 1) * hi = t := by
  refine snoc_step hp ?_
  rw [← hv]; exact h
theorem rShl_loop {a : List Int} (ha : Dig a) {n : Nat} (hn : n ≤ 100000) (hl : a.length ≤ 1073741824) :
    ∀ (r i c : Nat) (p : List Int), i + r = a.length → Dig p → p.length = n / 32 + i → c < 2 ^ (n % 32) → dval p + 4294967296 ^ (n / 32 + i) * c = 4294967296 ^ (n / 32) * (dval (a.take i) * 2 ^ (n % 32)) →
      ∀ f, r < f → astrolaberef01_Shl_l3 a (n : Int) f (c : Int) (i : Int) p = some (digs (dval a * 2 ^ n), true) := by
  have hs : n % 32 < 32 := by omega
  have hps := pow_lt32 hs
  intro r
  induction r with
  | zero =>
    intro i c p hi hp hlp hc hv f hf
    obtain ⟨f, rfl⟩ : ∃ k, f = k + 1 := ⟨f - 1, by omega⟩
    have hcm : c % 4294967296 = c := Nat.mod_eq_of_lt (by omega)
    rw [astrolaberef01_Shl_l3, if_neg (by omega)]
    unfold astrolaberef01_Shl_j2
    rw [u32n, hcm, if_pos (by simp only [List.length_cons, List.length_nil]; omega)]
    rw [rTrim_eq (dig_snoc hp (by omega)) (by rw [List.length_append]; simp only [List.length_cons, List.length_nil]; omega)]
    simp only [obind]
    have h1 := snoc_step (v := c) (r := 0) hlp (by rw [Nat.mul_zero, Nat.add_zero])
    rw [Nat.mul_zero, Nat.add_zero] at h1
    rw [h1, hv, List.take_of_length_le (by omega)]
    have e : 4294967296 ^ (n / 32) * (dval a * 2 ^ (n % 32)) = dval a * 2 ^ n := by
      conv => rhs; rw [← Nat.div_add_mod n 32, Nat.pow_add, ← pow32]
      rw [Nat.mul_left_comm]
    rw [e]
  | succ r ih =>
    intro i c p hi hp hlp hc hv f hf
    obtain ⟨f, rfl⟩ : ∃ k, f = k + 1 := ⟨f - 1, by omega⟩
    obtain ⟨d, hd, hd'⟩ := digN ha i
    have hb : d * 2 ^ (n % 32) < 18446744073709551616 := mul_lt64 hd' hps
    have hlt : d * 2 ^ (n % 32) + c < 4294967296 * 2 ^ (n % 32) := by
      have : (d + 1) * 2 ^ (n % 32) ≤ 4294967296 * 2 ^ (n % 32) := Nat.mul_le_mul_right _ hd'
      rw [Nat.add_mul, Nat.one_mul] at this; omega
    have hor : d * 2 ^ (n % 32) ||| c = d * 2 ^ (n % 32) + c := by
      rw [Nat.or_comm, Nat.mul_comm, or_add _ hc, Nat.add_comm]
    have hv64 : d * 2 ^ (n % 32) + c < 18446744073709551616 := by
      have := mul_lt64 (x := 4294967295) (y := 2 ^ (n % 32)) (by omega) hps
      omega
    have hhi : (d * 2 ^ (n % 32) + c) / 4294967296 < 2 ^ (n % 32) := by
      rw [Nat.div_lt_iff_lt_mul (by decide), Nat.mul_comm (2 ^ (n % 32)) 4294967296]; exact hlt
    rw [astrolaberef01_Shl_l3, if_pos (by omega), if_pos (by omega), tmod32, if_pos (by omega), kz]
    simp only [Int.toNat_natCast]
    rw [hd, u64n (x := d) (by omega), shl64n (by omega) hb, or64n hb (by omega), hor, shr32n, u32n]
    rw [if_pos (by simp only [List.length_cons, List.length_nil]; omega), show (i : Int) + 1 = ((i + 1 : Nat) : Int) by omega, w64n (by omega)]
    refine ih (i + 1) _ _ (by omega) (dig_snoc hp (Nat.mod_lt _ (by decide))) (by rw [List.length_append]; simp; omega) hhi ?_ f (by omega)
    rw [← Nat.add_assoc]
    refine snoc_eq hlp ?_ (Nat.mod_add_div _ 4294967296).symm
    rw [dval_take_succ, hd, Int.toNat_natCast]
    rw [wpow1] at hv ⊢
    exact shlr_alg hv rfl
theorem rShl_eq {a : List Int} (ha : Dig a) (hl : a.length ≤ 1073741824) {n : Nat} (hn : n ≤ 100000) : astrolaberef01_Shl a (n : Int) = some (digs (dval a * 2 ^ n), true) := by
  unfold astrolaberef01_Shl
  rw [if_neg (by omega), show decide ((n : Int) > 100000) = false by simp; omega]
  unfold astrolaberef01_Shl_j1
  rw [if_neg (by simp), tdiv32, w64n (n := n / 32) (by omega), if_pos (by omega), kz, Int.toNat_natCast]
  exact rShl_loop ha hn hl a.length 0 0 (List.replicate (n / 32) 0) (by omega) (dig_replicate _) (by simp) (Nat.pow_pos (by decide)) (by simp [dval_replicate, dval]) fuel (by unfold fuel; omega)
theorem rnorm_l2 {t o : Nat} (ho : o % 2 = 1) (hsz : SZ (2 ^ t * o)) (neg : Bool) {e : Int} (he : -1152921504606846976 ≤ e ∧ e ≤ 1152921504606846976) :
    ∀ (r n : Nat), n + r = t → ∀ f, r < f → astrolaberef05_norm_l2 ⟨neg, digs (2 ^ t * o)⟩ e f (n : Int) = some (dy ⟨sg neg o, e + (t : Int)⟩) := by
  have hlen := sz_len hsz
  have ht := t_le (t := t) ho
  intro r
  induction r with
  | zero =>
    intro n hn f hf
    obtain ⟨f, rfl⟩ : ∃ k, f = k + 1 := ⟨f - 1, by omega⟩
    have : n = t := by omega
    subst this
    have hsz' := hsz
    unfold SZ at hsz'
    rw [astrolaberef05_norm_l2, rBit_eq (dig_digs _) (by omega), dval_digs, bit_at ho]
    simp only [obind]
    rw [if_neg (by simp)]
    unfold astrolaberef05_norm_j1
    rw [rShr_eq (dig_digs _) (by omega) (by omega), dval_digs, Nat.mul_div_cancel_left _ (Nat.pow_pos (by decide))]
    simp only [obind]
    rw [rMake_digs _ (sz_le (Nat.le_mul_of_pos_left _ (Nat.pow_pos (by decide))) hsz)]
    simp only [obind]
    rw [w64 (by omega) (by omega)]
    rfl
  | succ r ih =>
    intro n hn f hf
    obtain ⟨f, rfl⟩ : ∃ k, f = k + 1 := ⟨f - 1, by omega⟩
    have hsz' := hsz
    unfold SZ at hsz'
    rw [astrolaberef05_norm_l2, rBit_eq (dig_digs _) (by omega), dval_digs, bit_below (by omega)]
    simp only [obind]
    rw [if_pos (by simp), show ((n : Int) + 1) = ((n + 1 : Nat) : Int) by omega, w64n (by omega)]
    exact ih (n + 1) (by omega) f (by omega)
theorem rnorm_iOf {z : Int} (hsz : SZ z.natAbs) {e : Int} (he : -1152921504606846976 ≤ e ∧ e ≤ 1152921504606846976) : astrolaberef05_norm (iOf z) e = some (dy (nrm z e)) := by
  have hlen := sz_len hsz
  unfold astrolaberef05_norm
  rw [rMake_iOf hsz]
  simp only [obind]
  have h1 := iOf_mag_zero z
  by_cases h0 : z = 0
  · subst h0
    rw [if_pos (h1.2 rfl), nrm_zero, dy_z]
  · rw [if_neg (fun h => h0 (h1.1 h))]
    have h0' : z.natAbs ≠ 0 := by omega
    obtain ⟨o, h1, h2⟩ := lowz_spec h0'
    have hz := sg_abs z
    generalize lowz z.natAbs = t at h1
    have ei : iOf z = ⟨decide (z < 0), digs z.natAbs⟩ := rfl
    rw [ei]
    generalize decide (z < 0) = neg at *
    generalize z.natAbs = n at *
    subst h1
    rw [← hz, nrm_sg e h2]
    have := t_le (t := t) h2
    have hsz' := hsz
    unfold SZ at hsz'
    exact rnorm_l2 h2 hsz neg he t 0 (by omega) fuel (by unfold fuel; omega)
theorem rsize_eq {d : D} (hs : SZ d.m.natAbs) (he : -1152921504606846976 ≤ d.e ∧ d.e ≤ 1152921504606846976) : astrolaberef05_size (dy d) = some (d.e + (blen d.m.natAbs : Nat)) := by
  have hl := sz_len hs
  unfold astrolaberef05_size dy iOf
  simp only
  rw [rBits_eq (dig_digs _) (by omega), dval_digs]
  simp only [obind]
  unfold SZ at hs
  rw [w64 (by omega) (by omega)]
theorem rinRange_eq {d : D} (hs : SZ d.m.natAbs) (he : -1152921504606846976 ≤ d.e ∧ d.e ≤ 1152921504606846976) : astrolaberef05_inRange (dy d) = some (inR d) := by
  have hl := sz_len hs
  have h1 := iOf_mag_zero d.m
  have hM : (dy d).M = iOf d.m := rfl
  unfold astrolaberef05_inRange astrolaberef05_inRange_j1 inR
  rw [hM]
  by_cases h0 : d.m = 0
  · rw [if_pos (h1.2 h0)]; simp [h0]
  · rw [if_neg (fun h => h0 (h1.1 h)), rsize_eq hs he]
    have hb : astrolaberef01_Bits (iOf d.m).Mag = some ((blen d.m.natAbs : Nat) : Int) := by
      show astrolaberef01_Bits (digs d.m.natAbs) = _
      rw [rBits_eq (dig_digs _) (by omega), dval_digs]
    have hde : (dy d).E = d.e := rfl
    rw [hb, hde]
    simp only [obind]
    have e0 : (d.m == 0) = false := by simp [h0]
    rw [e0, Bool.false_or]
    by_cases c1 : d.e + (blen d.m.natAbs : Nat) ≥ -65536
    · rw [if_pos c1]
      by_cases c2 : d.e + (blen d.m.natAbs : Nat) ≤ 65536
      · rw [if_pos c2]
        by_cases c3 : d.e ≥ -131072
        · rw [if_pos c3]
          by_cases c4 : d.e ≤ 131072
          · rw [if_pos c4]
            congr 1
            apply decide_eq_decide.2
            omega
          · rw [if_neg c4]; congr 1; symm; apply decide_eq_false; omega
        · rw [if_neg c3]; congr 1; symm; apply decide_eq_false; omega
      · rw [if_neg c2]; congr 1; symm; apply decide_eq_false; omega
    · rw [if_neg c1]; congr 1; symm; apply decide_eq_false; omega
theorem rMake5_eq {m : Int} (hm : SZ m.natAbs) {e : Int} (he : -100000 ≤ e ∧ e ≤ 100000) : astrolaberef05_Make (iOf m) e = some (dy (makeD m e).1, (makeD m e).2) := by
  unfold astrolaberef05_Make
  rw [if_neg (by omega), show decide (e > 100000) = false by simp; omega]
  unfold astrolaberef05_Make_j1
  rw [if_neg (by simp), rnorm_iOf hm (by omega)]
  simp only [obind]
  show ((astrolaberef05_inRange (dy (nrm m e))).bind _) = _
  have ht := nrm_TD hm (e := e) (by omega)
  rw [rinRange_eq ht.1 ht.2]
  simp only [obind]
  unfold makeD
  cases inR (nrm m e) with
  | true => rfl
  | false => simp [dy_z]
theorem rRight4_eq {a : ApiInt} (h : a.Mag.length ≤ 274877906944) : astrolaberef04_Right a = some (rightI a) := by
  unfold astrolaberef04_Right astrolaberef04_Right_j1 rightI
  by_cases h0 : a.Mag.length = 0
  · rw [if_pos (by omega), if_pos h0]
    cases hn : a.Neg with
    | false => rw [if_pos (by simp)]; rfl
    | true => rw [if_neg (by simp), if_neg (by omega)]; rfl
  · have hw : IntKind.i64.wrap ((a.Mag.length : Int) - 1) = ((a.Mag.length - 1 : Nat) : Int) := by rw [w64] <;> omega
    rw [if_neg (by omega), if_neg h0, hw, if_pos (by omega), if_pos (by omega), kz, Int.toNat_natCast]
theorem rRight5_eq {x : ApiDy} (hd : Dig x.M.Mag) (hl : x.M.Mag.length ≤ 274877906944) : astrolaberef05_Right x = some (rightD x) := by
  unfold astrolaberef05_Right astrolaberef05_Right_j1 rightD
  rw [rRight4_eq hl]
  simp only [obind]
  cases hr : rightI x.M with
  | false => simp
  | true =>
    rw [if_neg (by simp)]
    simp only [Bool.true_and]
    by_cases h0 : x.M.Mag.length = 0
    · rw [if_pos (by omega), if_pos h0]
    · rw [if_neg (by omega), if_neg h0, if_pos (by omega), kz]
      obtain ⟨d, hd1, hd2⟩ := digN hd 0
      rw [hd1, show (2 : Int) = ((2 : Nat) : Int) by rfl, tmodn, Int.toNat_natCast, Nat.testBit_zero]
      by_cases h1 : d % 2 = 1
      · rw [if_pos (by omega)]
        by_cases h2 : x.E ≥ -131072
        · rw [if_pos h2]
          simp [h1]
          intro _; omega
        · rw [if_neg h2]
          simp [h1]; omega
      · rw [if_neg (by omega)]
        simp [h1]
theorem rRight5_dy {d : D} (h : okD d) (hs : SZ d.m.natAbs) : astrolaberef05_Right (dy d) = some true := by
  rw [rRight5_eq (dig_digs _) (by have := sz_len hs; show (digs d.m.natAbs).length ≤ _; omega), rightD_dy h]
theorem rCmp4_eq {x y : Int} (hx : SZ x.natAbs) (hy : SZ y.natAbs) : astrolaberef04_Cmp (iOf x) (iOf y) = some (sgc x y) := by
  have h1 := sz_len hx
  have h2 := sz_len hy
  unfold astrolaberef04_Cmp
  rw [rMake_iOf hx, rMake_iOf hy]
  simp only [obind]
  unfold astrolaberef04_Cmp_j1 astrolaberef04_Cmp_j2
  have eN : ∀ z : Int, (iOf z).Neg = decide (z < 0) := fun _ => rfl
  have eM : ∀ z : Int, (iOf z).Mag = digs z.natAbs := fun _ => rfl
  rw [eN, eN, eM, eM]
  simp only [rCmp_eq (dig_digs x.natAbs) (dig_digs y.natAbs) (by omega) (by omega), rCmp_eq (dig_digs y.natAbs) (dig_digs x.natAbs) (by omega) (by omega), dval_digs, obind]
  unfold sgc
  by_cases hxn : x < 0 <;> by_cases hyn : y < 0 <;> simp only [hxn, hyn, decide_true, decide_false, Bool.not_false, Bool.not_true, if_true, if_false, Bool.false_eq_true, not_true_eq_false, not_false_eq_true]
  · congr 1
    by_cases h : x < y
    · rw [if_pos h, if_pos (by omega)]
    · rw [if_neg h, if_neg (by omega)]
      by_cases h' : y < x
      · rw [if_pos h', if_pos (by omega)]
      · rw [if_neg h', if_neg (by omega)]
  · rw [if_pos (by omega)]
  · rw [if_neg (by omega), if_pos (by omega)]
  · congr 1
    by_cases h : x < y
    · rw [if_pos h, if_pos (by omega)]
    · rw [if_neg h, if_neg (by omega)]
      by_cases h' : y < x
      · rw [if_pos h', if_pos (by omega)]
      · rw [if_neg h', if_neg (by omega)]
theorem rup_l2 {a : ApiInt} {k : Nat} : ∀ (c v n : Nat), n ≤ 100000 * c → blen v + n ≤ k → k ≤ 1048576 → ∀ f, c < f → astrolaberef05_up_l2 a f (n : Int) (digs v) = some (iOf (sg a.Neg (v * 2 ^ n))) := by
  intro c
  induction c with
  | zero =>
    intro v n hn hv hk f hf
    obtain ⟨f, rfl⟩ : ∃ k, f = k + 1 := ⟨f - 1, by omega⟩
    have h0 : n = 0 := by omega
    subst h0
    rw [astrolaberef05_up_l2, if_neg (by omega)]
    unfold astrolaberef05_up_j1
    rw [rMake_digs _ (by unfold SZ; omega)]
    simp
  | succ c ih =>
    intro v n hn hv hk f hf
    obtain ⟨f, rfl⟩ : ∃ k, f = k + 1 := ⟨f - 1, by omega⟩
    have hl := sz_len (n := v) (by unfold SZ; omega)
    rw [astrolaberef05_up_l2]
    by_cases h : n = 0
    · subst h
      rw [if_neg (by omega)]
      unfold astrolaberef05_up_j1
      rw [rMake_digs _ (by unfold SZ; omega)]
      simp
    · rw [if_pos (by omega)]
      have hm : mn (n : Int) 100000 = ((min n 100000 : Nat) : Int) := by unfold mn; split <;> omega
      rw [hm, rShl_eq (dig_digs v) (by omega) (by omega), dval_digs]
      simp only [obind]
      rw [show (n : Int) - ((min n 100000 : Nat) : Int) = ((n - min n 100000 : Nat) : Int) by omega, w64n (by omega)]
      have hvb : blen (v * 2 ^ min n 100000) + (n - min n 100000) ≤ k := by
        by_cases h0 : v = 0
        · subst h0; rw [Nat.zero_mul, blen_zero]; omega
        · rw [blen_shl h0]; omega
      have e := ih (v * 2 ^ min n 100000) (n - min n 100000) (by omega) hvb hk f (by omega)
      rw [Nat.mul_assoc, ← Nat.pow_add, show min n 100000 + (n - min n 100000) = n by omega] at e
      exact e
theorem rup_eq {z : Int} {n : Nat} (h : blen z.natAbs + n ≤ 1048576) : astrolaberef05_up (iOf z) (n : Int) = some (iOf (z * 2 ^ n)) := by
  unfold astrolaberef05_up
  have := rup_l2 (a := iOf z) 12 z.natAbs n (by omega) h (Nat.le_refl _) fuel (by unfold fuel; omega)
  refine this.trans ?_
  congr 2
  show sg (decide (z < 0)) (z.natAbs * 2 ^ n) = _
  rw [Nat.mul_comm, sg_mul, sg_abs, Int.mul_comm]
  simp
/-- Both to the lesser exponent. -/
def liftD (x y : D) : Int × Int × Int := if x.m = 0 then (0, y.m, y.e) else if y.m = 0 then (x.m, 0, x.e) else if x.e > y.e then (x.m * 2 ^ (x.e - y.e).toNat, y.m, y.e) else (x.m, y.m * 2 ^ (y.e - x.e).toNat, x.e)
theorem rlift_eq {x y : D} (hx : WD x) (hy : WD y) : astrolaberef05_lift (dy x) (dy y) = some (iOf (liftD x y).1, iOf (liftD x y).2.1, (liftD x y).2.2) := by
  have ex := hx.e
  have ey := hy.e
  have bx := hx.2
  have b_y := hy.2
  have h1 := iOf_mag_zero x.m
  have h2 := iOf_mag_zero y.m
  have hM : ∀ d : D, (dy d).M = iOf d.m := fun _ => rfl
  have hE : ∀ d : D, (dy d).E = d.e := fun _ => rfl
  have i0 : (⟨false, []⟩ : ApiInt) = iOf 0 := by simp [iOf, digs_zero]
  unfold astrolaberef05_lift liftD
  rw [hM, hM, hE, hE]
  by_cases hx0 : x.m = 0
  · rw [if_pos (h1.2 hx0), if_pos hx0, i0]
  · rw [if_neg (fun h => hx0 (h1.1 h)), if_neg hx0]
    by_cases hy0 : y.m = 0
    · rw [if_pos (h2.2 hy0), if_pos hy0, i0]
    · rw [if_neg (fun h => hy0 (h2.1 h)), if_neg hy0]
      by_cases h : x.e > y.e
      · have hw : IntKind.i64.wrap (x.e - y.e) = ((x.e - y.e).toNat : Int) := by rw [w64] <;> omega
        rw [if_pos h, if_pos h, hw, rup_eq (by omega)]
        rfl
      · have hw : IntKind.i64.wrap (y.e - x.e) = ((y.e - x.e).toNat : Int) := by rw [w64] <;> omega
        rw [if_neg h, if_neg h, hw, rup_eq (by omega)]
        rfl
theorem lift_sz {x y : D} (hx : WD x) (hy : WD y) : blen (liftD x y).1.natAbs ≤ 524288 ∧ blen (liftD x y).2.1.natAbs ≤ 524288 ∧ -131072 ≤ (liftD x y).2.2 ∧ (liftD x y).2.2 ≤ 131072 := by
  have ex := hx.e
  have ey := hy.e
  have bx := hx.2
  have b_y := hy.2
  have b1 := blen_abs_shl x.m (x.e - y.e).toNat
  have b2 := blen_abs_shl y.m (y.e - x.e).toNat
  unfold liftD
  split
  · simp [blen_zero]; omega
  · split
    · simp [blen_zero]; omega
    · split
      · simp only; omega
      · simp only; omega
theorem val_lift (x y : D) : val x = ((liftD x y).1 : Rat) * p2 (liftD x y).2.2 ∧ val y = ((liftD x y).2.1 : Rat) * p2 (liftD x y).2.2 := by
  unfold liftD
  split
  · rename_i h; exact ⟨by rw [val_zero_m h]; simp, rfl⟩
  · split
    · rename_i h; exact ⟨rfl, by rw [val_zero_m h]; simp⟩
    · split
      · refine ⟨?_, rfl⟩
        simp only
        unfold val
        rw [p2_diff (x := x.e) (y := y.e) (by omega), Rat.intCast_mul]; grind
      · refine ⟨rfl, ?_⟩
        simp only
        unfold val
        rw [p2_diff (x := y.e) (y := x.e) (by omega), Rat.intCast_mul]; grind
theorem mul_lt_iff {a b p : Rat} (hp : 0 < p) : a * p < b * p ↔ a < b := by
  constructor
  · intro h
    by_cases h' : a < b
    · exact h'
    · have := Rat.mul_le_mul_of_nonneg_right (show b ≤ a by grind) (Rat.le_of_lt hp)
      grind
  · intro h; exact Rat.mul_lt_mul_of_pos_right h hp
theorem sgc_lift (x y : D) : sgc (liftD x y).1 (liftD x y).2.1 = cmpD x y := by
  obtain ⟨h1, h2⟩ := val_lift x y
  rw [cmpD_eq, h1, h2]
  generalize (liftD x y).1 = a
  generalize (liftD x y).2.1 = b
  have hp := p2_pos (liftD x y).2.2
  simp only [mul_lt_iff hp]
  unfold sgc
  have e1 : (a : Rat) < (b : Rat) ↔ a < b := by exact_mod_cast Iff.rfl
  have e2 : (b : Rat) < (a : Rat) ↔ b < a := by exact_mod_cast Iff.rfl
  by_cases h3 : a < b
  · rw [if_pos h3, if_pos (e1.2 h3)]
  · rw [if_neg h3, if_neg (fun h => h3 (e1.1 h))]
    by_cases h4 : b < a
    · rw [if_pos h4, if_pos (e2.2 h4)]
    · rw [if_neg h4, if_neg (fun h => h4 (e2.1 h))]
theorem cmp_sign {x y : D} (h : (x.m < 0 ↔ ¬ y.m < 0) ∨ x.m = 0 ∨ y.m = 0) : sgc x.m y.m = cmpD x y := by
  have n1 := val_neg_iff x
  have n2 := val_neg_iff y
  have p1 := val_pos_iff x
  have p2 := val_pos_iff y
  have z1 := val_zero_iff x
  have z2 := val_zero_iff y
  rw [cmpD_eq]
  unfold sgc
  rcases (show x.m < 0 ∨ x.m = 0 ∨ 0 < x.m by omega) with h1 | h1 | h1 <;> rcases (show y.m < 0 ∨ y.m = 0 ∨ 0 < y.m by omega) with h2 | h2 | h2
  · omega
  · have a1 := n1.2 h1; have a2 := z2.2 h2
    rw [if_pos (by omega), if_pos (by grind)]
  · have a1 := n1.2 h1; have a2 := p2.2 h2
    rw [if_pos (by omega), if_pos (by grind)]
  · have a1 := z1.2 h1; have a2 := n2.2 h2
    rw [if_neg (by omega), if_pos (by omega), if_neg (by grind), if_pos (by grind)]
  · have a1 := z1.2 h1; have a2 := z2.2 h2
    rw [if_neg (by omega), if_neg (by omega), if_neg (by grind), if_neg (by grind)]
  · have a1 := z1.2 h1; have a2 := p2.2 h2
    rw [if_pos (by omega), if_pos (by grind)]
  · have a1 := p1.2 h1; have a2 := n2.2 h2
    rw [if_neg (by omega), if_pos (by omega), if_neg (by grind), if_pos (by grind)]
  · have a1 := p1.2 h1; have a2 := z2.2 h2
    rw [if_neg (by omega), if_pos (by omega), if_neg (by grind), if_pos (by grind)]
  · omega
theorem rCmp5_eq {x y : D} (hx : WD x) (hy : WD y) : astrolaberef05_Cmp (dy x) (dy y) = some (cmpD x y) := by
  have ex := hx.e
  have ey := hy.e
  have bx := hx.sz
  have b_y := hy.sz
  have m1 := iOf_mag_zero x.m
  have m2 := iOf_mag_zero y.m
  have hN : ∀ d : D, (dy d).M.Neg = decide (d.m < 0) := fun _ => rfl
  have hM : ∀ d : D, (dy d).M = iOf d.m := fun _ => rfl
  unfold astrolaberef05_Cmp astrolaberef05_Cmp_j1
  rw [rRight5_dy hx.1 hx.sz, rRight5_dy hy.1 hy.sz]
  simp only [obind]
  rw [if_neg (by simp), if_neg (by simp)]
  have j2t : (x.m < 0 ↔ ¬ y.m < 0) ∨ x.m = 0 ∨ y.m = 0 → astrolaberef05_Cmp_j2 (dy x) (dy y) true = some (cmpD x y) := by
    intro h
    unfold astrolaberef05_Cmp_j2
    rw [if_pos rfl, hM, hM, rCmp4_eq bx b_y]
    simp only [obind]
    rw [cmp_sign h]
  rw [hN, hN]
  by_cases hs : decide (x.m < 0) = decide (y.m < 0)
  · rw [if_neg (by simp [hs]), hM, hM]
    by_cases h1 : x.m = 0
    · rw [if_pos (m1.2 h1)]; exact j2t (Or.inr (Or.inl h1))
    · rw [if_neg (fun h => h1 (m1.1 h))]
      by_cases h2 : y.m = 0
      · rw [show ((((iOf y.m).Mag.length : Nat) : Int) == 0) = true by rw [m2.2 h2]; rfl]; exact j2t (Or.inr (Or.inr h2))
      · rw [show ((((iOf y.m).Mag.length : Nat) : Int) == 0) = false by rw [beq_eq_false_iff_ne]; exact fun h => h2 (m2.1 h)]
        have hs' : x.m < 0 ↔ y.m < 0 := decide_eq_decide.1 hs
        unfold astrolaberef05_Cmp_j2
        rw [if_neg (by simp), rsize_eq bx (by omega), rsize_eq b_y (by omega)]
        simp only [obind]
        by_cases hz : x.e + (blen x.m.natAbs : Nat) = y.e + (blen y.m.natAbs : Nat)
        · rw [if_neg (by simpa using hz), rlift_eq hx hy]
          simp only [obind]
          obtain ⟨l1, l2, -⟩ := lift_sz hx hy
          rw [rCmp4_eq (by unfold SZ; omega) (by unfold SZ; omega)]
          simp only [obind]
          rw [sgc_lift]
        · rw [if_pos hz, hN]
          rw [cmpD_eq]
          have nn : ∀ d : D, d.m < 0 → 0 < (negD d).m := fun d h => by unfold negD; simp only; omega
          have na : ∀ d : D, (negD d).m.natAbs = d.m.natAbs := fun d => by unfold negD; simp
          have ne : ∀ d : D, (negD d).e = d.e := fun d => rfl
          rcases (show x.e + (blen x.m.natAbs : Nat) < y.e + (blen y.m.natAbs : Nat) ∨ y.e + (blen y.m.natAbs : Nat) < x.e + (blen x.m.natAbs : Nat) by omega) with hlt | hlt
          · by_cases hneg : x.m < 0
            · have hv := size_lt (x := negD x) (y := negD y) (nn _ hneg) (nn _ (hs'.1 hneg)) (by rw [na, na, ne, ne]; exact hlt)
              rw [val_neg, val_neg] at hv
              rw [if_pos (by simp [hlt, hneg]), if_neg (by grind), if_pos (by grind)]
            · have hv := size_lt (x := x) (y := y) (by omega) (by omega) hlt
              rw [if_neg (by simp [hlt]; omega), if_pos hv]
          · by_cases hneg : x.m < 0
            · have hv := size_lt (x := negD y) (y := negD x) (nn _ (hs'.1 hneg)) (nn _ hneg) (by rw [na, na, ne, ne]; exact hlt)
              rw [val_neg, val_neg] at hv
              rw [if_neg (by simp [hneg]; omega), if_pos (by grind)]
            · have hv := size_lt (x := y) (y := x) (by omega) (by omega) hlt
              rw [if_pos (by simp; omega), if_neg (by grind), if_pos hv]
  · rw [if_pos (by simpa using hs)]
    exact j2t (Or.inl (by
      by_cases h1 : x.m < 0 <;> by_cases h2 : y.m < 0 <;> simp [h1, h2] at hs ⊢))
theorem same_l3 {a b : ApiInt} (hl : a.Mag.length = b.Mag.length) (hs : a.Mag.length ≤ 1099511627776) : ∀ (r i : Nat), i + r = a.Mag.length → a.Mag.take i = b.Mag.take i → ∀ f, r < f → astrolaberef04_Same_l3 a b f (i : Int) = some (decide (a.Mag = b.Mag)) := by
  intro r
  induction r with
  | zero =>
    intro i hi ht f hf
    obtain ⟨f, rfl⟩ : ∃ k, f = k + 1 := ⟨f - 1, by omega⟩
    rw [List.take_of_length_le (by omega), List.take_of_length_le (by omega)] at ht
    rw [astrolaberef04_Same_l3, if_neg (by omega)]
    simp [astrolaberef04_Same_j2, ht]
  | succ r ih =>
    intro i hi ht f hf
    obtain ⟨f, rfl⟩ : ∃ k, f = k + 1 := ⟨f - 1, by omega⟩
    rw [astrolaberef04_Same_l3, if_pos (by omega), if_pos (by omega), if_pos (by omega), kz]
    simp only [Int.toNat_natCast]
    by_cases h : a.Mag.getD i 0 = b.Mag.getD i 0
    · rw [if_neg (by simpa using h), show (i : Int) + 1 = ((i + 1 : Nat) : Int) by omega, w64n (by omega)]
      refine ih (i + 1) (by omega) ?_ f (by omega)
      rw [List.take_succ_eq_append_getElem (by omega), List.take_succ_eq_append_getElem (by omega), ht]
      rw [List.getD_eq_getElem?_getD, List.getD_eq_getElem?_getD, List.getElem?_eq_getElem (show i < a.Mag.length by omega), List.getElem?_eq_getElem (show i < b.Mag.length by omega), Option.getD_some, Option.getD_some] at h
      rw [h]
    · rw [if_pos h]
      congr 1; symm; apply decide_eq_false
      intro he; rw [he] at h; exact h rfl
theorem iOf_inj {x y : Int} (h : iOf x = iOf y) : x = y := by
  have h1 : sg (iOf x).Neg (dval (iOf x).Mag) = x := by unfold iOf; simp only; rw [dval_digs, sg_abs]
  have h2 : sg (iOf y).Neg (dval (iOf y).Mag) = y := by unfold iOf; simp only; rw [dval_digs, sg_abs]
  rw [← h1, ← h2, h]
theorem same4_eq {x y : Int} (hx : SZ x.natAbs) : astrolaberef04_Same (iOf x) (iOf y) = some (decide (x = y)) := by
  have h1 := sz_len hx
  unfold astrolaberef04_Same astrolaberef04_Same_j1
  by_cases hn : (iOf x).Neg = (iOf y).Neg
  · rw [if_neg (by simp [hn])]
    by_cases hl : (iOf x).Mag.length = (iOf y).Mag.length
    · have hlen : (iOf x).Mag.length = (digs x.natAbs).length := rfl
      have e := same_l3 hl (by omega) (iOf x).Mag.length 0 (by omega) (by simp) fuel (by unfold fuel; omega)
      rw [if_neg (by simp [hl])]
      refine e.trans ?_
      congr 1
      apply decide_eq_decide.2
      constructor
      · intro h
        apply iOf_inj
        have : ∀ a b : ApiInt, a.Neg = b.Neg → a.Mag = b.Mag → a = b := fun a b h1 h2 => by cases a; cases b; simp only at h1 h2; rw [h1, h2]
        exact this _ _ hn h
      · rintro rfl; rfl
    · rw [if_pos (by simp; omega)]
      congr 1; symm; apply decide_eq_false
      rintro rfl; exact hl rfl
  · rw [if_pos (by simpa using hn), if_pos rfl]
    congr 1; symm; apply decide_eq_false
    rintro rfl; exact hn rfl
theorem same5_eq {x y : D} (hx : SZ x.m.natAbs) : astrolaberef05_Same (dy x) (dy y) = some (decide (x = y)) := by
  unfold astrolaberef05_Same astrolaberef05_Same_j1
  have hM : ∀ d : D, (dy d).M = iOf d.m := fun _ => rfl
  have hE : ∀ d : D, (dy d).E = d.e := fun _ => rfl
  rw [hM, hM, hE, hE, same4_eq hx]
  have ext : x = y ↔ x.m = y.m ∧ x.e = y.e := by
    constructor
    · rintro rfl; exact ⟨rfl, rfl⟩
    · intro h; cases x; cases y; simp only at h; rw [h.1, h.2]
  by_cases h : x.e = y.e
  · rw [if_pos h]
    simp only [obind]
    congr 1
    apply decide_eq_decide.2
    rw [ext]; simp [h]
  · rw [if_neg h]
    congr 1; symm; apply decide_eq_false
    rintro rfl; exact h rfl
structure I where
  lo : D
  hi : D
def zI : I := ⟨zD, zD⟩
def iv (a : I) : ApiIv := ⟨dy a.lo, dy a.hi⟩
/-- A stretch that is right. -/
def okI (a : I) : Prop := WD a.lo ∧ WD a.hi ∧ val a.lo ≤ val a.hi
theorem iv_z : iv zI = ⟨⟨⟨false, []⟩, 0⟩, ⟨⟨false, []⟩, 0⟩⟩ := by unfold iv zI; simp only [dy_z]
theorem okI_z : okI zI := ⟨WD_z, WD_z, Rat.le_refl⟩
theorem etaDy (x : ApiDy) : (⟨x.M, x.E⟩ : ApiDy) = x := rfl
theorem etaIv (x : ApiIv) : (⟨⟨x.Lo.M, x.Lo.E⟩, ⟨x.Hi.M, x.Hi.E⟩⟩ : ApiIv) = x := rfl
theorem ivLo (a : I) : (iv a).Lo = dy a.lo := rfl
theorem ivHi (a : I) : (iv a).Hi = dy a.hi := rfl
/-- The first error stays. -/
def bindE {α : Type} (r : D × Int) (z : α) (f : D → α × Int) : α × Int := if r.2 = 0 then f r.1 else (z, r.2)
/-- If there was an error, nothing is done. -/
def st {α : Type} (e : Int) (z : α) (r : α × Int) : α × Int := if e = 0 then r else (z, e)
theorem ivRight_eq {a : I} (h : okI a) : iv_Right (iv a) = some true := by
  obtain ⟨h1, h2, h3⟩ := h
  unfold iv_Right iv_Right_j1
  rw [ivLo, ivHi, dyad_Right_dy h1.1 h1.sz]
  simp only [obind, if_true]
  rw [dyad_Right_dy h2.1 h2.sz]
  simp only [obind, if_true]
  rw [dyad_Cmp_eq h1 h2]
  simp only [obind]
  congr 1
  exact decide_eq_true ((cmpD_le _ _).2 h3)
def hasI (a : I) (x : D) : Bool := decide (cmpD a.lo x ≤ 0) && decide (cmpD x a.hi ≤ 0)
theorem ivHas_eq {a : I} (h : okI a) {x : D} (hx : WD x) : iv_Has (iv a) (dy x) = some (hasI a x) := by
  unfold iv_Has iv_Has_j1
  rw [ivRight_eq h]
  simp only [obind, if_true]
  rw [dyad_Right_dy hx.1 hx.sz]
  simp only [obind, if_true]
  rw [ivLo, ivHi, dyad_Cmp_eq h.1 hx, dyad_Cmp_eq hx h.2.1]
  simp only [obind]
  unfold hasI
  by_cases h1 : cmpD a.lo x ≤ 0
  · rw [if_pos h1, decide_eq_true h1, Bool.true_and]
  · rw [if_neg h1, decide_eq_false h1, Bool.false_and]
theorem note_eq (x e p : Int) : iv_trouble_note x e p = some (if e = 0 then (x == 0, x) else (false, e)) := by
  unfold iv_trouble_note iv_trouble_note_j1
  by_cases h : e = 0
  · rw [if_pos h, if_pos h]
  · rw [if_neg h, if_neg h]
    have : (e == 0) = false := by simpa using h
    rw [this]
theorem fine_nil (l : List ApiIv) (p e : Int) (i n : Nat) (hi : l.length ≤ i) : iv_Calc_fine_l2 l p (n + 1) (i : Int) e = some (e == 0, e) := by
  rw [iv_Calc_fine_l2, if_neg (by omega)]; rfl
theorem fine_cons (l : List ApiIv) (p e : Int) (i n : Nat) (hi : i < l.length) (hi' : i ≤ 1000) (hr : iv_Right (l.getD i zApiIv) = some true) : iv_Calc_fine_l2 l p (n + 1) (i : Int) e = iv_Calc_fine_l2 l p n ((i + 1 : Nat) : Int) e := by
  rw [iv_Calc_fine_l2, if_pos (by omega), if_pos (by omega)]
  simp only [Int.toNat_natCast, etaIv]
  rw [hr]
  simp only [obind]
  rw [if_neg (by simp)]
  unfold iv_Calc_fine_j3
  rw [if_neg (by simp), show ((i : Int) + 1) = ((i + 1 : Nat) : Int) by omega, w64n (by omega)]
theorem fine_one {a : I} (ha : okI a) (e p : Int) : iv_Calc_fine [iv a] e p = some (e == 0, e) := by
  unfold iv_Calc_fine
  obtain ⟨f, hf⟩ := fuel_succ
  rw [hf]
  exact (fine_cons [iv a] p e 0 (f + 1 + 1) (by simp) (by omega) (ivRight_eq ha)).trans (fine_nil [iv a] p e 1 (f + 1) (by simp))
theorem fine_two {a b : I} (ha : okI a) (hb : okI b) (e p : Int) : iv_Calc_fine [iv a, iv b] e p = some (e == 0, e) := by
  unfold iv_Calc_fine
  obtain ⟨f, hf⟩ := fuel_succ
  rw [hf]
  exact (fine_cons [iv a, iv b] p e 0 (f + 1 + 1) (by simp) (by omega) (ivRight_eq ha)).trans ((fine_cons [iv a, iv b] p e 1 (f + 1) (by simp) (by omega) (ivRight_eq hb)).trans (fine_nil [iv a, iv b] p e 2 f (by simp)))
theorem take_eq (x : D) (y e p : Int) : iv_Calc_take (dy x) y e p = some (if e = 0 then (if y = 0 then (dy x, 0) else (dy zD, y)) else (dy zD, e)) := by
  unfold iv_Calc_take
  rw [note_eq, dy_z]
  simp only [obind]
  by_cases h : e = 0
  · rw [if_pos h, if_pos h]
    by_cases h2 : y = 0
    · rw [if_pos h2, h2]; rfl
    · rw [if_neg h2, if_pos (by simpa using h2)]
  · rw [if_neg h, if_neg h]; rfl
theorem sumE_eq {x y : D} (hx : WD x) (hy : WD y) (e p : Int) : iv_Calc_sum (dy x) (dy y) e p = some (dy (st e zD (bindE (addD x y) zD fun s => (s, 0))).1, (st e zD (bindE (addD x y) zD fun s => (s, 0))).2) := by
  unfold iv_Calc_sum st bindE
  by_cases h : e = 0
  · rw [if_neg (by simpa using h), if_pos h, dyad_Add_eq hx hy]
    simp only [obind]
    rw [take_eq, if_pos h]
    simp only [obind]
    by_cases h2 : (addD x y).2 = 0
    · rw [if_pos h2, if_pos h2]
    · rw [if_neg h2, if_neg h2]
  · rw [if_pos h, if_neg h, dy_z]
theorem downE_eq {x : D} (hx : WD x) {p : Nat} (hp : 2 ≤ p ∧ p ≤ 400) (e : Int) : iv_Calc_down (dy x) e (p : Int) = some (dy (st e zD (bindE (roundD x p false) zD fun s => (s, 0))).1, (st e zD (bindE (roundD x p false) zD fun s => (s, 0))).2) := by
  unfold iv_Calc_down st bindE
  by_cases h : e = 0
  · rw [if_neg (by simpa using h), if_pos h, dyad_Round_eq hx hp]
    simp only [obind]
    rw [take_eq, if_pos h]
    simp only [obind]
    by_cases h2 : (roundD x p false).2 = 0
    · rw [if_pos h2, if_pos h2]
    · rw [if_neg h2, if_neg h2]
  · rw [if_pos h, if_neg h, dy_z]
theorem upE_eq {x : D} (hx : WD x) {p : Nat} (hp : 2 ≤ p ∧ p ≤ 400) (e : Int) : iv_Calc_up (dy x) e (p : Int) = some (dy (st e zD (bindE (roundD x p true) zD fun s => (s, 0))).1, (st e zD (bindE (roundD x p true) zD fun s => (s, 0))).2) := by
  unfold iv_Calc_up st bindE
  by_cases h : e = 0
  · rw [if_neg (by simpa using h), if_pos h, dyad_Round_eq hx hp]
    simp only [obind]
    rw [take_eq, if_pos h]
    simp only [obind]
    by_cases h2 : (roundD x p true).2 = 0
    · rw [if_pos h2, if_pos h2]
    · rw [if_neg h2, if_neg h2]
  · rw [if_pos h, if_neg h, dy_z]
theorem outE_eq (x y : D) (e p : Int) : iv_Calc_out (dy x) (dy y) e p = some (iv (if e = 0 then ⟨x, y⟩ else zI)) := by
  unfold iv_Calc_out
  by_cases h : e = 0
  · rw [if_neg (by simpa using h), if_pos h]; rfl
  · rw [if_pos h, if_neg h, iv_z]
def addI (p : Nat) (a b : I) : I × Int := bindE (addD a.lo b.lo) zI fun s => bindE (roundD s p false) zI fun lo => bindE (addD a.hi b.hi) zI fun t => bindE (roundD t p true) zI fun hi => (⟨lo, hi⟩, 0)
theorem WD_bind {r : D × Int} (h : WD r.1) (e : Int) : WD (st e zD (bindE r zD fun s => (s, 0))).1 := by
  unfold st bindE
  split
  · split
    · exact h
    · exact WD_z
  · exact WD_z
theorem st_ne {α : Type} {e : Int} (h : e ≠ 0) (z : α) (r : α × Int) : st e z r = (z, e) := by unfold st; rw [if_neg h]
theorem st_zero {α : Type} (z : α) (r : α × Int) : st 0 z r = r := by unfold st; rw [if_pos rfl]
theorem fine_no {e : Int} (h : e ≠ 0) : ¬ (e == 0) = true := by simpa using h
theorem bindE_ok {α : Type} {r : D × Int} (h : r.2 = 0) (z : α) (f : D → α × Int) : bindE r z f = f r.1 := by unfold bindE; rw [if_pos h]
theorem bindE_no {α : Type} {r : D × Int} (h : r.2 ≠ 0) (z : α) (f : D → α × Int) : bindE r z f = (z, r.2) := by unfold bindE; rw [if_neg h]
theorem ivAdd_eq {a b : I} (ha : okI a) (hb : okI b) {p : Nat} (hp : 2 ≤ p ∧ p ≤ 400) (e : Int) : iv_Calc_Add (iv a) (iv b) e (p : Int) = some (iv (st e zI (addI p a b)).1, (st e zI (addI p a b)).2) := by
  unfold iv_Calc_Add
  rw [fine_two ha hb]
  simp only [obind]
  by_cases h : e = 0
  · subst h
    rw [if_neg (by simp), ivLo, ivLo, ivHi, ivHi, st_zero, sumE_eq ha.1 hb.1, st_zero]
    simp only [obind]
    rw [downE_eq (x := (bindE (addD a.lo b.lo) zD fun s => (s, 0)).1) (by
      have := WD_bind (WD_add ha.1 hb.1) 0; rwa [st_zero] at this) hp]
    simp only [obind]
    unfold addI
    by_cases h1 : (addD a.lo b.lo).2 = 0
    · rw [bindE_ok h1, bindE_ok h1, st_zero]
      by_cases h2 : (roundD (addD a.lo b.lo).1 p false).2 = 0
      · rw [bindE_ok h2, bindE_ok h2, sumE_eq ha.2.1 hb.2.1, st_zero]
        simp only [obind]
        rw [upE_eq (x := (bindE (addD a.hi b.hi) zD fun s => (s, 0)).1) (by
          have := WD_bind (WD_add ha.2.1 hb.2.1) 0; rwa [st_zero] at this) hp]
        simp only [obind]
        by_cases h3 : (addD a.hi b.hi).2 = 0
        · rw [bindE_ok h3, bindE_ok h3, st_zero]
          by_cases h4 : (roundD (addD a.hi b.hi).1 p true).2 = 0
          · rw [bindE_ok h4, bindE_ok h4, outE_eq]
            simp only [obind]
            rfl
          · rw [bindE_no h4, bindE_no h4, outE_eq]
            simp only [obind]
            rw [if_neg h4]
        · rw [bindE_no h3, bindE_no h3, st_ne h3, outE_eq]
          simp only [obind]
          rw [if_neg h3]
      · rw [bindE_no h2, bindE_no h2, sumE_eq ha.2.1 hb.2.1, st_ne h2]
        simp only [obind]
        rw [upE_eq WD_z hp, st_ne h2]
        simp only [obind]
        rw [outE_eq]
        simp only [obind]
        rw [if_neg h2]
    · rw [bindE_no h1, bindE_no h1, st_ne h1, sumE_eq ha.2.1 hb.2.1, st_ne h1]
      simp only [obind]
      rw [upE_eq WD_z hp, st_ne h1]
      simp only [obind]
      rw [outE_eq]
      simp only [obind]
      rw [if_neg h1]
  · rw [if_pos (fine_no h), st_ne h, iv_z]
theorem okI_point {x : D} (h : WD x) : okI ⟨x, x⟩ := ⟨h, h, Rat.le_refl⟩
theorem ivPoint_eq {x : D} (hx : WD x) (e p : Int) : iv_Calc_Point (dy x) e p = some (iv (st e zI (⟨x, x⟩, 0)).1, (st e zI ((⟨x, x⟩ : I), 0)).2) := by
  unfold iv_Calc_Point
  have : (⟨dy x, dy x⟩ : ApiIv) = iv ⟨x, x⟩ := rfl
  rw [this, fine_one (okI_point hx)]
  simp only [obind]
  by_cases h : e = 0
  · subst h; rw [if_neg (by simp), st_zero]
  · rw [if_pos (fine_no h), st_ne h, iv_z]
def intI (n : Int) : I := ⟨fromD n, fromD n⟩
theorem ivInt_eq {n : Int} (hn : -9223372036854775808 ≤ n ∧ n ≤ 9223372036854775807) (e p : Int) : iv_Calc_Int n e p = some (iv (st e zI (intI n, 0)).1, (st e zI (intI n, 0)).2) := by
  unfold iv_Calc_Int
  rw [dyad_From_eq hn]
  simp only [obind]
  rw [ivPoint_eq (WD_from hn)]
  simp only [obind]
  rfl
def negI (a : I) : I := ⟨negD a.hi, negD a.lo⟩
theorem okI_neg {a : I} (h : okI a) : okI (negI a) := by
  refine ⟨h.2.1.neg, h.1.neg, ?_⟩
  show val (negD a.hi) ≤ val (negD a.lo)
  rw [val_neg, val_neg]
  have := h.2.2
  grind
theorem ivNeg_eq {a : I} (h : okI a) (e p : Int) : iv_Calc_Neg (iv a) e p = some (iv (st e zI (negI a, 0)).1, (st e zI (negI a, 0)).2) := by
  unfold iv_Calc_Neg
  rw [fine_one h]
  simp only [obind]
  by_cases h0 : e = 0
  · subst h0
    rw [if_neg (by simp), st_zero, ivLo, ivHi, dyad_Neg_eq h.1, dyad_Neg_eq h.2.1]
    simp only [obind]
    rfl
  · rw [if_pos (fine_no h0), st_ne h0, iv_z]
/-- The least, the greatest of some. -/
def minD (m x : D) : D := if cmpD x m < 0 then x else m
def maxD (m x : D) : D := if 0 < cmpD x m then x else m
theorem minD_val (m x : D) : (minD m x = m ∧ val m ≤ val x) ∨ (minD m x = x ∧ val x < val m) := by
  unfold minD
  by_cases h : cmpD x m < 0
  · rw [if_pos h]; right; exact ⟨rfl, (cmpD_lt _ _).1 h⟩
  · rw [if_neg h]; left
    have := mt (cmpD_lt x m).2 h
    exact ⟨rfl, by grind⟩
theorem maxD_val (m x : D) : (maxD m x = m ∧ val x ≤ val m) ∨ (maxD m x = x ∧ val m < val x) := by
  unfold maxD
  by_cases h : 0 < cmpD x m
  · rw [if_pos h]; right; exact ⟨rfl, (cmpD_gt _ _).1 h⟩
  · rw [if_neg h]; left
    have := mt (cmpD_gt x m).2 h
    exact ⟨rfl, by grind⟩
theorem map_getD (l : List D) (i : Nat) (h : i < l.length) : (l.map dy).getD i zApiDy = dy (l.getD i zD) := by
  simp [List.getD, List.getElem?_map, List.getElem?_eq_getElem h]
theorem ends_loop (x : D) (l : List D) (hl : ∀ y ∈ l, WD y) (hlen : l.length ≤ 1000) : ∀ (r i : Nat) (m M : D), i + r = l.length → WD m → WD M → ∀ f, r < f →
    iv_ends_l2 ((x :: l).map dy) f (i : Int) (dy m).M.Neg (dy m).M.Mag (dy m).E (dy M).M.Neg (dy M).M.Mag (dy M).E = some (dy ((l.drop i).foldl minD m), dy ((l.drop i).foldl maxD M)) := by
  have hdrop : (((x :: l).map dy).take ((x :: l).map dy).length).drop 1 = l.map dy := by
    rw [List.take_length]; simp
  intro r
  induction r with
  | zero =>
    intro i m M hi hm hM f hf
    obtain ⟨f, rfl⟩ : ∃ k, f = k + 1 := ⟨f - 1, by omega⟩
    rw [iv_ends_l2, hdrop, if_neg (by rw [List.length_map]; omega), List.drop_eq_nil_of_le (by omega)]
    rfl
  | succ r ih =>
    intro i m M hi hm hM f hf
    obtain ⟨f, rfl⟩ : ∃ k, f = k + 1 := ⟨f - 1, by omega⟩
    have hin : i < l.length := by omega
    have hmem : l.getD i zD ∈ l := by
      rw [List.getD_eq_getElem?_getD, List.getElem?_eq_getElem hin]; exact List.getElem_mem hin
    have hW := hl _ hmem
    have hdc : l.drop i = l.getD i zD :: l.drop (i + 1) := by
      rw [List.drop_eq_getElem_cons hin, List.getD_eq_getElem?_getD, List.getElem?_eq_getElem hin]; rfl
    have hw : IntKind.i64.wrap ((i : Int) + 1) = ((i + 1 : Nat) : Int) := by rw [w64] <;> omega
    rw [iv_ends_l2]
    unfold iv_ends_j3 iv_ends_j4
    simp only [hdrop, hw]
    rw [if_pos (by rw [List.length_map]; omega), if_pos (by rw [List.length_map]; omega), Int.toNat_natCast, map_getD l i hin]
    generalize hg : l.getD i zD = y at *
    have e1 : ∀ d : D, (⟨⟨(dy d).M.Neg, (dy d).M.Mag⟩, (dy d).E⟩ : ApiDy) = dy d := fun _ => rfl
    simp only [etaDy, e1]
    rw [dyad_Cmp_eq hW hm]
    simp only [obind]
    rw [dyad_Cmp_eq hW hM]
    simp only [obind]
    rw [hdc, List.foldl_cons, List.foldl_cons]
    have hmin : minD m y = if cmpD y m < 0 then y else m := rfl
    have hmax : maxD M y = if 0 < cmpD y M then y else M := rfl
    by_cases h1 : cmpD y m < 0
    · rw [if_pos h1]
      by_cases h2 : 0 < cmpD y M
      · rw [if_pos h2, hmin, hmax, if_pos h1, if_pos h2]
        exact ih (i + 1) y y (by omega) hW hW f (by omega)
      · rw [if_neg h2, hmin, hmax, if_pos h1, if_neg h2]
        exact ih (i + 1) y M (by omega) hW hM f (by omega)
    · rw [if_neg h1]
      by_cases h2 : 0 < cmpD y M
      · rw [if_pos h2, hmin, hmax, if_neg h1, if_pos h2]
        exact ih (i + 1) m y (by omega) hm hW f (by omega)
      · rw [if_neg h2, hmin, hmax, if_neg h1, if_neg h2]
        exact ih (i + 1) m M (by omega) hm hM f (by omega)
theorem ends_eq (x : D) (l : List D) (hx : WD x) (hl : ∀ y ∈ l, WD y) (hlen : l.length ≤ 1000) : iv_ends ((x :: l).map dy) = some (dy (l.foldl minD x), dy (l.foldl maxD x)) := by
  unfold iv_ends
  have hlen2 : ((x :: l).map dy).length = l.length + 1 := by simp
  rw [if_pos (by omega), if_pos (by omega), if_pos (by omega)]
  have h0 : ((x :: l).map dy).getD 0 zApiDy = dy x := rfl
  rw [h0]
  exact ends_loop x l hl hlen l.length 0 x x (by omega) hx hx fuel (by unfold fuel; omega)
def sqrtI (p : Nat) (a : I) : I × Int := bindE (sqrtD a.lo p false) zI fun lo => bindE (sqrtD a.hi p true) zI fun hi => (⟨lo, hi⟩, 0)
def midI (p : Nat) (a : I) : D × Int := bindE (addD a.lo a.hi) zD fun s => bindE (scaleD s (-1)) zD fun h => bindE (roundD h p false) zD fun r => (r, 0)
theorem ivSqrt_eq {a : I} (ha : okI a) (hb : blen a.lo.m.natAbs ≤ 100000 ∧ blen a.hi.m.natAbs ≤ 100000) {p : Nat} (hp : 2 ≤ p ∧ p ≤ 400) (e : Int) : iv_Calc_Sqrt (iv a) e (p : Int) = some (iv (st e zI (sqrtI p a)).1, (st e zI (sqrtI p a)).2) := by
  unfold iv_Calc_Sqrt
  rw [fine_one ha]
  simp only [obind]
  by_cases h : e = 0
  · subst h
    rw [if_neg (by simp), ivLo, ivHi, st_zero, dyad_Sqrt_eq ha.1 hb.1 hp]
    simp only [obind]
    rw [take_eq, if_pos rfl]
    unfold sqrtI
    by_cases h1 : (sqrtD a.lo p false).2 = 0
    · rw [bindE_ok h1, if_pos h1]
      simp only [obind]
      rw [if_neg (by simp), dyad_Sqrt_eq ha.2.1 hb.2 hp]
      simp only [obind]
      rw [take_eq, if_pos rfl]
      by_cases h2 : (sqrtD a.hi p true).2 = 0
      · rw [bindE_ok h2, if_pos h2]
        simp only [obind]
        rw [outE_eq]
        simp only [obind]
        rfl
      · rw [bindE_no h2, if_neg h2]
        simp only [obind]
        rw [outE_eq, if_neg h2]
        simp only [obind]
    · rw [bindE_no h1, if_neg h1]
      simp only [obind]
      rw [if_pos (by simpa using h1), iv_z]
  · rw [if_pos (fine_no h), st_ne h, iv_z]
theorem ivMid_eq {a : I} (ha : okI a) {p : Nat} (hp : 2 ≤ p ∧ p ≤ 400) (e : Int) : iv_Calc_Mid (iv a) e (p : Int) = some (dy (st e zD (midI p a)).1, (st e zD (midI p a)).2) := by
  unfold iv_Calc_Mid
  rw [fine_one ha]
  simp only [obind]
  by_cases h : e = 0
  · subst h
    rw [if_neg (by simp), ivLo, ivHi, st_zero, sumE_eq ha.1 ha.2.1, st_zero]
    simp only [obind]
    unfold midI
    by_cases h1 : (addD a.lo a.hi).2 = 0
    · have hs := WD_add ha.1 ha.2.1
      rw [bindE_ok h1, bindE_ok h1, if_neg (by simp), dyad_Scale_eq hs (by omega)]
      simp only [obind]
      rw [take_eq, if_pos rfl]
      by_cases h2 : (scaleD (addD a.lo a.hi).1 (-1)).2 = 0
      · rw [bindE_ok h2, if_pos h2]
        simp only [obind]
        rw [downE_eq (WD_scale hs _) hp, st_zero]
        simp only [obind]
      · rw [bindE_no h2, if_neg h2]
        simp only [obind]
        rw [downE_eq WD_z hp, st_ne h2]
        simp only [obind]
    · rw [bindE_no h1, bindE_no h1, if_pos (by simpa using h1), dy_z]
  · rw [if_pos (fine_no h), st_ne h, dy_z]
def stepF (f : D → D → D × Int) (x : D) (s : Int × List D) (y : D) : Int × List D :=
  if s.1 = 0 then (if (f x y).2 = 0 then (0, s.2 ++ [(f x y).1]) else ((f x y).2, s.2 ++ [zD])) else (s.1, s.2 ++ [zD])
def rowF (f : D → D → D × Int) (ys : List D) (s : Int × List D) (x : D) : Int × List D := ys.foldl (stepF f x) s
def fourF (f : D → D → D × Int) (xs ys : List D) : Int × List D := xs.foldl (rowF f ys) (0, [])
theorem step_len (f : D → D → D × Int) (x : D) (s : Int × List D) (y : D) : (stepF f x s y).2.length = s.2.length + 1 := by
  unfold stepF
  split
  · split <;> simp
  · simp
theorem fold_len (f : D → D → D × Int) (x : D) : ∀ (ys : List D) (s : Int × List D), (ys.foldl (stepF f x) s).2.length = s.2.length + ys.length
  | [], s => by simp
  | y :: ys, s => by rw [List.foldl_cons, fold_len f x ys, step_len, List.length_cons]; omega
theorem step_WD {f : D → D → D × Int} (hf : ∀ x y, WD x → WD y → WD (f x y).1) {x y : D} (hx : WD x) (hy : WD y) {s : Int × List D} (hs : ∀ z ∈ s.2, WD z) : ∀ z ∈ (stepF f x s y).2, WD z := by
  unfold stepF
  split
  · split
    · intro z hz
      rcases List.mem_append.1 hz with h | h
      · exact hs z h
      · have : z = (f x y).1 := by simpa using h
        subst this; exact hf x y hx hy
    · intro z hz
      rcases List.mem_append.1 hz with h | h
      · exact hs z h
      · have : z = zD := by simpa using h
        subst this; exact WD_z
  · intro z hz
    rcases List.mem_append.1 hz with h | h
    · exact hs z h
    · have : z = zD := by simpa using h
      subst this; exact WD_z
theorem row_WD {f : D → D → D × Int} (hf : ∀ x y, WD x → WD y → WD (f x y).1) {x : D} (hx : WD x) : ∀ (ys : List D) (_ : ∀ y ∈ ys, WD y) (s : Int × List D) (_ : ∀ z ∈ s.2, WD z), ∀ z ∈ (ys.foldl (stepF f x) s).2, WD z
  | [], _, s, hs => hs
  | y :: ys, hys, s, hs => by
    rw [List.foldl_cons]
    exact row_WD hf hx ys (fun z hz => hys z (List.mem_cons_of_mem _ hz)) _ (step_WD hf hx (hys y List.mem_cons_self) hs)
theorem four_WD {f : D → D → D × Int} (hf : ∀ x y, WD x → WD y → WD (f x y).1) {ys : List D} (hys : ∀ y ∈ ys, WD y) : ∀ (xs : List D) (_ : ∀ x ∈ xs, WD x) (s : Int × List D) (_ : ∀ z ∈ s.2, WD z), ∀ z ∈ (xs.foldl (rowF f ys) s).2, WD z
  | [], _, s, hs => hs
  | x :: xs, hxs, s, hs => by
    rw [List.foldl_cons]
    exact four_WD hf hys xs (fun z hz => hxs z (List.mem_cons_of_mem _ hz)) _ (row_WD hf (hxs x List.mem_cons_self) ys hys s hs)
theorem getD_mem {l : List D} {i : Nat} (h : i < l.length) : l.getD i zD ∈ l := by
  rw [List.getD_eq_getElem?_getD, List.getElem?_eq_getElem h]; exact List.getElem_mem h
theorem drop_getD {l : List D} {i : Nat} (h : i < l.length) : l.drop i = l.getD i zD :: l.drop (i + 1) := by
  rw [List.drop_eq_getElem_cons h, List.getD_eq_getElem?_getD, List.getElem?_eq_getElem h]; rfl
/-- The ends of a stretch, each but once. -/
def endsL (a : I) : List D := if cmpD a.lo a.hi = 0 then [a.lo] else [a.lo, a.hi]
theorem endsL_WD {a : I} (h : okI a) : ∀ x ∈ endsL a, WD x := by
  unfold endsL
  split
  · intro x hx; have : x = a.lo := by simpa using hx
    subst this; exact h.1
  · intro x hx
    have : x = a.lo ∨ x = a.hi := by simpa using hx
    rcases this with rfl | rfl
    · exact h.1
    · exact h.2.1
theorem endsL_len (a : I) : (endsL a).length ≤ 2 := by unfold endsL; split <;> simp
theorem cmpD_zero {x y : D} : cmpD x y = 0 ↔ val x = val y := by
  rw [cmpD_eq]
  constructor
  · intro h
    by_cases h1 : val x < val y
    · rw [if_pos h1] at h; simp at h
    · rw [if_neg h1] at h
      by_cases h2 : val y < val x
      · rw [if_pos h2] at h; simp at h
      · grind
  · intro h
    rw [if_neg (by grind), if_neg (by grind)]
theorem endsL_two {a : I} (h : okI a) : endsL a = [a.lo, a.hi] ∨ (a.lo = a.hi ∧ endsL a = [a.lo]) := by
  unfold endsL
  by_cases h1 : cmpD a.lo a.hi = 0
  · rw [if_pos h1]; right; exact ⟨okD_ext h.1.1 h.2.1.1 (cmpD_zero.1 h1), rfl⟩
  · rw [if_neg h1]; left; rfl
def minL : List D → D
  | [] => zD
  | x :: l => l.foldl minD x
def maxL : List D → D
  | [] => zD
  | x :: l => l.foldl maxD x
theorem ends_eqL {l : List D} (h0 : l ≠ []) (h : ∀ x ∈ l, WD x) (hlen : l.length ≤ 1000) : iv_ends (l.map dy) = some (dy (minL l), dy (maxL l)) := by
  cases l with
  | nil => exact absurd rfl h0
  | cons x l => exact ends_eq x l (h x List.mem_cons_self) (fun y hy => h y (List.mem_cons_of_mem _ hy)) (by simp at hlen; omega)
theorem minD_stay {m x : D} (h : val m ≤ val x) : minD m x = m := by
  rcases minD_val m x with h1 | h1
  · exact h1.1
  · exact absurd h1.2 (by grind)
theorem maxD_stay {m x : D} (h : val x ≤ val m) : maxD m x = m := by
  rcases maxD_val m x with h1 | h1
  · exact h1.1
  · exact absurd h1.2 (by grind)
theorem minD_self (x : D) : minD x x = x := minD_stay (Rat.le_refl)
theorem maxD_self (x : D) : maxD x x = x := maxD_stay (Rat.le_refl)
theorem minD_le (m x : D) : val (minD m x) ≤ val m ∧ val (minD m x) ≤ val x := by
  rcases minD_val m x with h | h
  · rw [h.1]; exact ⟨Rat.le_refl, h.2⟩
  · rw [h.1]; exact ⟨by grind, Rat.le_refl⟩
theorem maxD_ge (m x : D) : val m ≤ val (maxD m x) ∧ val x ≤ val (maxD m x) := by
  rcases maxD_val m x with h | h
  · rw [h.1]; exact ⟨Rat.le_refl, h.2⟩
  · rw [h.1]; exact ⟨by grind, Rat.le_refl⟩
def four4 {α : Type} (f : D → D → D × Int) (x1 x2 y1 y2 : D) (z : α) (k : D → D → D → D → α × Int) : α × Int :=
  bindE (f x1 y1) z fun q1 => bindE (f x1 y2) z fun q2 => bindE (f x2 y1) z fun q3 => bindE (f x2 y2) z fun q4 => k q1 q2 q3 q4
def min4 (a b c d : D) : D := minD (minD (minD a b) c) d
def max4 (a b c d : D) : D := maxD (maxD (maxD a b) c) d
theorem four_fin {α : Type} (f : D → D → D × Int) (x1 x2 y1 y2 : D) (xs ys : List D) (hx : xs = [x1, x2] ∨ (x1 = x2 ∧ xs = [x1])) (hy : ys = [y1, y2] ∨ (y1 = y2 ∧ ys = [y1])) (z : α) (g : D → D → α × Int) :
    (if (fourF f xs ys).1 = 0 then g (minL (fourF f xs ys).2) (maxL (fourF f xs ys).2) else (z, (fourF f xs ys).1)) = four4 f x1 x2 y1 y2 z (fun a b c d => g (min4 a b c d) (max4 a b c d)) := by
  unfold four4 min4 max4
  rcases hx with rfl | ⟨rfl, rfl⟩ <;> rcases hy with rfl | ⟨rfl, rfl⟩
  · by_cases h1 : (f x1 y1).2 = 0 <;> by_cases h2 : (f x1 y2).2 = 0 <;> by_cases h3 : (f x2 y1).2 = 0 <;> by_cases h4 : (f x2 y2).2 = 0 <;> simp [fourF, rowF, stepF, bindE, minL, maxL, h1, h2, h3, h4]
  · by_cases h1 : (f x1 y1).2 = 0 <;> by_cases h3 : (f x2 y1).2 = 0 <;> simp [fourF, rowF, stepF, bindE, minL, maxL, h1, h3, minD_self, maxD_self]
    rw [minD_stay (minD_le _ _).2, maxD_stay (maxD_ge _ _).2]
  · by_cases h1 : (f x1 y1).2 = 0 <;> by_cases h2 : (f x1 y2).2 = 0 <;> simp [fourF, rowF, stepF, bindE, minL, maxL, h1, h2]
    rw [minD_stay (minD_le _ _).1, maxD_stay (maxD_ge _ _).1, minD_stay (minD_le _ _).2, maxD_stay (maxD_ge _ _).2]
  · by_cases h1 : (f x1 y1).2 = 0 <;> simp [fourF, rowF, stepF, bindE, minL, maxL, h1, minD_self, maxD_self]
theorem four_ne {f : D → D → D × Int} {a b : I} (ha : okI a) (hb : okI b) : (fourF f (endsL a) (endsL b)).2 ≠ [] := by
  intro h
  have : (fourF f (endsL a) (endsL b)).2.length = 0 := by rw [h]; rfl
  unfold fourF at this
  rcases endsL_two ha with h1 | ⟨-, h1⟩ <;> rcases endsL_two hb with h2 | ⟨-, h2⟩ <;> rw [h1, h2] at this <;> simp [rowF, step_len] at this
theorem four_len {f : D → D → D × Int} {a b : I} (ha : okI a) (hb : okI b) : (fourF f (endsL a) (endsL b)).2.length ≤ 4 := by
  unfold fourF
  rcases endsL_two ha with h1 | ⟨-, h1⟩ <;> rcases endsL_two hb with h2 | ⟨-, h2⟩ <;> rw [h1, h2] <;> simp [rowF, step_len]
theorem div_l7 {xs ys : List D} (hxs : ∀ x ∈ xs, WD x) (hys : ∀ y ∈ ys, WD y) (hly : ys.length ≤ 10) (hlx : xs.length ≤ 10) {i : Nat} (hi : i < xs.length) {p : Nat} (hp : 2 ≤ p ∧ p ≤ 400) (up : Bool) (ag : Int → Int → List ApiDy → Option (List ApiDy × Int)) :
    ∀ (r j : Nat) (e : Int) (O : List D), j + r = ys.length → O.length + r ≤ 2000 → ∀ n, r < n →
      iv_Calc_four_e8e7_l7 (ys.map dy) (xs.map dy) (i : Int) (p : Int) up ag n (j : Int) e (O.map dy) = ag ((i + 1 : Nat) : Int) ((ys.drop j).foldl (stepF (fun x y => divD x y p up) (xs.getD i zD)) (e, O)).1 (((ys.drop j).foldl (stepF (fun x y => divD x y p up) (xs.getD i zD)) (e, O)).2.map dy) := by
  intro r
  induction r with
  | zero =>
    intro j e O hj hO n hn
    obtain ⟨n, rfl⟩ : ∃ k, n = k + 1 := ⟨n - 1, by omega⟩
    rw [iv_Calc_four_e8e7_l7, if_neg (by rw [List.length_map]; omega), List.drop_eq_nil_of_le (by omega)]
    unfold iv_Calc_four_e8e7_j6 iv_Calc_four_e8e7_j5
    rw [show ((i : Int) + 1) = ((i + 1 : Nat) : Int) by omega, w64n (by omega)]
    rfl
  | succ r ih =>
    intro j e O hj hO n hn
    obtain ⟨n, rfl⟩ : ∃ k, n = k + 1 := ⟨n - 1, by omega⟩
    have hjn : j < ys.length := by omega
    have hy := hys _ (getD_mem hjn)
    have hx := hxs _ (getD_mem hi)
    have hrow : iv_Calc_four_e8e7_l7 (ys.map dy) (xs.map dy) (i : Int) (p : Int) up ag (n + 1) (j : Int) e (O.map dy) = iv_Calc_four_e8e7_l7 (ys.map dy) (xs.map dy) (i : Int) (p : Int) up ag n ((j + 1 : Nat) : Int) (stepF (fun x y => divD x y p up) (xs.getD i zD) (e, O) (ys.getD j zD)).1 ((stepF (fun x y => divD x y p up) (xs.getD i zD) (e, O) (ys.getD j zD)).2.map dy) := by
      rw [iv_Calc_four_e8e7_l7, if_pos (by rw [List.length_map]; omega), if_pos (by rw [List.length_map]; omega)]
      simp only [Int.toNat_natCast]
      rw [map_getD xs i hi, map_getD ys j hjn]
      simp only [etaDy]
      unfold iv_Calc_Div_1_1
      rw [dyad_Div_eq hx hy hp up]
      simp only [obind]
      rw [take_eq]
      simp only [obind]
      rw [if_pos (by simp only [List.length_cons, List.length_nil, List.length_map]; omega), show ((j : Int) + 1) = ((j + 1 : Nat) : Int) by omega, w64n (by omega)]
      unfold stepF
      by_cases h : e = 0
      · subst h
        rw [if_pos rfl, if_pos rfl]
        by_cases h2 : (divD (xs.getD i zD) (ys.getD j zD) p up).2 = 0
        · rw [if_pos h2, if_pos h2]; simp
        · rw [if_neg h2, if_neg h2]; simp
      · rw [if_neg h, if_neg h]; simp
    rw [hrow, drop_getD hjn, List.foldl_cons]
    exact ih (j + 1) _ _ (by omega) (by rw [step_len]; simp only; omega) n (by omega)
theorem div_l4 {xs ys : List D} (hxs : ∀ x ∈ xs, WD x) (hys : ∀ y ∈ ys, WD y) (hly : ys.length ≤ 10) (hlx : xs.length ≤ 10) {p : Nat} (hp : 2 ≤ p ∧ p ≤ 400) (up : Bool) :
    ∀ (r i : Nat) (e : Int) (O : List D), i + r = xs.length → O.length ≤ 100 * i → ∀ n, r < n →
      iv_Calc_four_e8e7_l4 (xs.map dy) (ys.map dy) (p : Int) up n (i : Int) e (O.map dy) = some (((xs.drop i).foldl (rowF (fun x y => divD x y p up) ys) (e, O)).2.map dy, ((xs.drop i).foldl (rowF (fun x y => divD x y p up) ys) (e, O)).1) := by
  intro r
  induction r with
  | zero =>
    intro i e O hi hO n hn
    obtain ⟨n, rfl⟩ : ∃ k, n = k + 1 := ⟨n - 1, by omega⟩
    rw [iv_Calc_four_e8e7_l4, if_neg (by rw [List.length_map]; omega), List.drop_eq_nil_of_le (by omega)]
    rfl
  | succ r ih =>
    intro i e O hi hO n hn
    obtain ⟨n, rfl⟩ : ∃ k, n = k + 1 := ⟨n - 1, by omega⟩
    have hin : i < xs.length := by omega
    rw [iv_Calc_four_e8e7_l4, if_pos (by rw [List.length_map]; omega), if_pos (by rw [List.length_map]; omega)]
    have h7 := div_l7 hxs hys hly hlx hin hp up (fun z0 z1 z2 => iv_Calc_four_e8e7_l4 (xs.map dy) (ys.map dy) (p : Int) up n z0 z1 z2) ys.length 0 e O (by omega) (by omega) fuel (by unfold fuel; omega)
    refine h7.trans ?_
    rw [List.drop_zero, drop_getD hin, List.foldl_cons]
    exact ih (i + 1) _ _ (by omega) (by rw [fold_len]; simp only; omega) n (by omega)
theorem divFour_eq {a b : I} (ha : okI a) (hb : okI b) {p : Nat} (hp : 2 ≤ p ∧ p ≤ 400) (up : Bool) : iv_Calc_four_e8e7 (iv a) (iv b) 0 (p : Int) up = some ((fourF (fun x y => divD x y p up) (endsL a) (endsL b)).2.map dy, (fourF (fun x y => divD x y p up) (endsL a) (endsL b)).1) := by
  have key : ∀ xs ys : List D, (∀ x ∈ xs, WD x) → (∀ y ∈ ys, WD y) → ys.length ≤ 2 → xs.length ≤ 2 → iv_Calc_four_e8e7_j2 (xs.map dy) (p : Int) up 0 (ys.map dy) = some ((fourF (fun x y => divD x y p up) xs ys).2.map dy, (fourF (fun x y => divD x y p up) xs ys).1) := by
    intro xs ys hx hy hl1 hl2
    unfold iv_Calc_four_e8e7_j2
    have := div_l4 hx hy (by omega) (by omega) hp up xs.length 0 0 [] (by omega) (by simp) fuel (by unfold fuel; omega)
    rw [List.drop_zero] at this
    exact this
  have kx := endsL_WD ha
  have ky := endsL_WD hb
  have lx := endsL_len a
  have ly := endsL_len b
  have k := key _ _ kx ky ly lx
  unfold iv_Calc_four_e8e7 iv_Calc_four_e8e7_j1
  rw [ivLo, ivLo, ivHi, ivHi, dyad_Cmp_eq ha.1 ha.2.1, dyad_Cmp_eq hb.1 hb.2.1]
  simp only [obind]
  rw [← k]
  unfold endsL
  have e1 : ∀ x y : D, [dy x, dy y].take 1 = [x].map dy := fun _ _ => rfl
  have e2 : ∀ x y : D, [dy x, dy y] = [x, y].map dy := fun _ _ => rfl
  by_cases h1 : cmpD a.lo a.hi = 0
  · rw [if_pos h1, if_pos (by simp), if_pos h1]
    by_cases h2 : cmpD b.lo b.hi = 0
    · rw [if_pos h2, if_pos (by simp), if_pos h2]; rfl
    · rw [if_neg h2, if_neg h2]; rfl
  · rw [if_neg h1, if_neg h1]
    by_cases h2 : cmpD b.lo b.hi = 0
    · rw [if_pos h2, if_pos (by simp), if_pos h2]; rfl
    · rw [if_neg h2, if_neg h2]; rfl
def divI (p : Nat) (a b : I) : I × Int := if hasI b zD then (zI, 3) else
  four4 (fun x y => divD x y p false) a.lo a.hi b.lo b.hi zI fun q1 q2 q3 q4 => four4 (fun x y => divD x y p true) a.lo a.hi b.lo b.hi zI fun r1 r2 r3 r4 => (⟨min4 q1 q2 q3 q4, max4 r1 r2 r3 r4⟩, 0)
theorem fourF_ne {f : D → D → D × Int} {xs ys : List D} {e : Int} (he : e ≠ 0) : ∀ (s : Int × List D), s.1 = e → (xs.foldl (rowF f ys) s).1 = e := by
  have h1 : ∀ (x : D) (s : Int × List D) (y : D), s.1 = e → (stepF f x s y).1 = e := by
    intro x s y hs
    unfold stepF
    rw [if_neg (by rw [hs]; exact he)]
    exact hs
  have h2 : ∀ (x : D) (l : List D) (s : Int × List D), s.1 = e → (l.foldl (stepF f x) s).1 = e := by
    intro x l
    induction l with
    | nil => intro s hs; exact hs
    | cons y l ih => intro s hs; rw [List.foldl_cons]; exact ih _ (h1 x s y hs)
  induction xs with
  | nil => intro s hs; exact hs
  | cons x l ih => intro s hs; rw [List.foldl_cons]; exact ih _ (h2 x ys s hs)
theorem divFour_ne {a b : I} (ha : okI a) (hb : okI b) {p : Nat} (hp : 2 ≤ p ∧ p ≤ 400) (up : Bool) {e : Int} (he : e ≠ 0) : ∃ L : List D, iv_Calc_four_e8e7 (iv a) (iv b) e (p : Int) up = some (L.map dy, e) ∧ L ≠ [] ∧ L.length ≤ 4 ∧ ∀ z ∈ L, WD z := by
  have kx := endsL_WD ha
  have ky := endsL_WD hb
  have lx := endsL_len a
  have ly := endsL_len b
  have hk := div_l4 kx ky (by omega) (by omega) hp up (endsL a).length 0 e [] (by omega) (by simp) fuel (by unfold fuel; omega)
  rw [List.drop_zero, fourF_ne he _ rfl] at hk
  refine ⟨_, ?_, ?_, ?_, four_WD (f := fun x y => divD x y p up) (fun _ _ _ _ => WD_div) ky (endsL a) kx (e, []) (by intro z hz; cases hz)⟩
  · unfold iv_Calc_four_e8e7 iv_Calc_four_e8e7_j1 iv_Calc_four_e8e7_j2
    rw [ivLo, ivLo, ivHi, ivHi, dyad_Cmp_eq ha.1 ha.2.1, dyad_Cmp_eq hb.1 hb.2.1]
    simp only [obind]
    rw [← hk]
    unfold endsL
    by_cases h1 : cmpD a.lo a.hi = 0
    · rw [if_pos h1, if_pos (by simp), if_pos h1]
      by_cases h2 : cmpD b.lo b.hi = 0
      · rw [if_pos h2, if_pos (by simp), if_pos h2]; rfl
      · rw [if_neg h2, if_neg h2]; rfl
    · rw [if_neg h1, if_neg h1]
      by_cases h2 : cmpD b.lo b.hi = 0
      · rw [if_pos h2, if_pos (by simp), if_pos h2]; rfl
      · rw [if_neg h2, if_neg h2]; rfl
  · intro h
    have hlen : ((endsL a).foldl (rowF (fun x y => divD x y p up) (endsL b)) (e, [])).2.length = 0 := by rw [h]; rfl
    rcases endsL_two ha with h1 | ⟨-, h1⟩ <;> rcases endsL_two hb with h2 | ⟨-, h2⟩ <;> rw [h1, h2] at hlen <;> simp [rowF, step_len] at hlen
  · rcases endsL_two ha with h1 | ⟨-, h1⟩ <;> rcases endsL_two hb with h2 | ⟨-, h2⟩ <;> rw [h1, h2] <;> simp [rowF, step_len]
theorem ivDiv_eq {a b : I} (ha : okI a) (hb : okI b) {p : Nat} (hp : 2 ≤ p ∧ p ≤ 400) (e : Int) : iv_Calc_Div (iv a) (iv b) e (p : Int) = some (iv (st e zI (divI p a b)).1, (st e zI (divI p a b)).2) := by
  unfold iv_Calc_Div
  rw [fine_two ha hb]
  simp only [obind]
  by_cases h : e = 0
  · subst h
    rw [if_neg (by simp), st_zero, ← dy_z, ivHas_eq hb WD_z]
    simp only [obind]
    unfold divI
    by_cases hz : hasI b zD = true
    · rw [if_pos hz, if_pos hz, note_eq]
      simp only [obind]
      rfl
    · rw [if_neg hz, if_neg hz]
      unfold iv_Calc_Div_1
      simp only [obind]
      rw [divFour_eq ha hb hp]
      simp only [obind]
      have hW : ∀ up, ∀ z ∈ (fourF (fun x y => divD x y p up) (endsL a) (endsL b)).2, WD z := fun up => four_WD (fun _ _ _ _ => WD_div) (endsL_WD hb) _ (endsL_WD ha) _ (by intro z hz; cases hz)
      have hl := fun up => four_len (f := fun x y => divD x y p up) ha hb
      rw [ends_eqL (four_ne ha hb) (hW false) (by have := hl false; omega)]
      simp only [obind]
      rw [← four_fin (fun x y => divD x y p false) a.lo a.hi b.lo b.hi (endsL a) (endsL b) (endsL_two ha) (endsL_two hb) zI (fun m _ => four4 (fun x y => divD x y p true) a.lo a.hi b.lo b.hi zI fun r1 r2 r3 r4 => (⟨m, max4 r1 r2 r3 r4⟩, 0))]
      by_cases h0 : (fourF (fun x y => divD x y p false) (endsL a) (endsL b)).1 = 0
      · rw [h0, if_pos rfl, divFour_eq ha hb hp]
        simp only [obind]
        rw [ends_eqL (four_ne ha hb) (hW true) (by have := hl true; omega)]
        simp only [obind]
        rw [outE_eq]
        simp only [obind]
        generalize minL (fourF (fun x y => divD x y p false) (endsL a) (endsL b)).2 = m
        rw [← four_fin (fun x y => divD x y p true) a.lo a.hi b.lo b.hi (endsL a) (endsL b) (endsL_two ha) (endsL_two hb) zI (fun _ M => (⟨m, M⟩, 0))]
        by_cases h1 : (fourF (fun x y => divD x y p true) (endsL a) (endsL b)).1 = 0
        · rw [if_pos h1, if_pos h1, h1]
        · rw [if_neg h1, if_neg h1]
      · rw [if_neg h0]
        obtain ⟨L, l1, l2, l3, l4⟩ := divFour_ne ha hb hp true h0
        rw [l1]
        simp only [obind]
        rw [ends_eqL l2 l4 (by omega)]
        simp only [obind]
        rw [outE_eq, if_neg h0]
        simp only [obind]
  · rw [if_pos (fine_no h), st_ne h, iv_z]
theorem ivHullNone_eq {e : Int} (he : e ≠ 0) (p : Int) : iv_Calc_Hull_7f2a e p = some (iv zI, e) := by
  unfold iv_Calc_Hull_7f2a iv_Calc_fine_7f2a
  rw [note_eq]
  simp only [obind]
  obtain ⟨f, hf⟩ := fuel_succ
  rw [hf]
  unfold iv_Calc_fine_7f2a_l2 iv_Calc_fine_7f2a_j1
  simp only [obind]
  rw [if_neg he]
  simp only
  rw [if_pos (fine_no he), iv_z]
theorem natCast_le {a b : Nat} (h : a ≤ b) : (a : Rat) ≤ (b : Rat) := by exact_mod_cast h
theorem mul_le_iff {a b p : Rat} (hp : 0 < p) : a * p ≤ b * p ↔ a ≤ b := by
  constructor
  · intro h
    by_cases h' : a ≤ b
    · exact h'
    · have := Rat.mul_lt_mul_of_pos_right (show b < a by grind) hp
      grind
  · intro h; exact Rat.mul_le_mul_of_nonneg_right h (Rat.le_of_lt hp)
theorem p2_split (e : Int) (n : Nat) : p2 (e + (n : Nat)) = ((2 ^ n : Nat) : Rat) * p2 e := by rw [Int.add_comm, p2_add, p2_nat]
theorem p2_lt {a b : Int} (h : a < b) : p2 a < p2 b := by
  have h1 := p2_le (show a + 1 ≤ b by omega)
  have h2 := p2_pos a
  rw [p2_add] at h1
  have : p2 1 = 2 := by rw [show (1 : Int) = ((1 : Nat) : Int) by rfl, p2_nat]; rfl
  rw [this] at h1
  grind
theorem p2_le_iff {a b : Int} : p2 a ≤ p2 b ↔ a ≤ b := by
  constructor
  · intro h
    rcases (show a ≤ b ∨ b < a by omega) with h1 | h1
    · exact h1
    · have := p2_lt h1; grind
  · exact p2_le
theorem rep_bound {w : Int} {p : Nat} (hw : w.natAbs ≤ 2 ^ p) (f : Int) : (w.natAbs : Rat) * p2 f ≤ p2 (f + (p : Nat)) := by
  rw [p2_split, mul_le_iff (p2_pos f)]; exact natCast_le hw
def G (L : Int) (q : Rat) : Prop := ∃ z : Int, q = (z : Rat) * p2 L
def B (H : Int) (q : Rat) : Prop := -(p2 H) ≤ q ∧ q ≤ p2 H
theorem G.neg {L : Int} {x : Rat} (hx : G L x) : G L (-x) := by
  obtain ⟨a, rfl⟩ := hx
  exact ⟨-a, by rw [Rat.intCast_neg]; grind⟩
theorem G.mono {L M : Int} {x : Rat} (hx : G L x) (h : M ≤ L) : G M x := by
  obtain ⟨a, rfl⟩ := hx
  exact ⟨a * 2 ^ (L - M).toNat, by rw [Rat.intCast_mul, Rat.mul_assoc, ← p2_diff h]⟩
theorem G.of {z : Int} {L M : Int} (h : M ≤ L) : G M ((z : Rat) * p2 L) := G.mono ⟨z, rfl⟩ h
theorem B.mono {H K : Int} {x : Rat} (hx : B H x) (h : H ≤ K) : B K x := by
  have := p2_le h
  unfold B at *
  grind
theorem B.neg {H : Int} {x : Rat} (hx : B H x) : B H (-x) := by unfold B at *; grind
/-- A number that is nought or odd. -/
def odd0 (d : D) : Prop := (d.m = 0 → d.e = 0) ∧ (d.m ≠ 0 → d.m % 2 = 1)
theorem G_e {d : D} (ho : odd0 d) (h0 : d.m ≠ 0) {L : Int} (h : G L (val d)) : L ≤ d.e := by
  rcases (show L ≤ d.e ∨ d.e < L by omega) with h1 | h1
  · exact h1
  · exfalso
    obtain ⟨z, hz⟩ := h
    have hp := p2_pos d.e
    have e1 : (d.m : Rat) = ((z * 2 ^ (L - d.e).toNat : Int) : Rat) := by
      unfold val at hz
      rw [p2_diff (show d.e ≤ L by omega), ← Rat.mul_assoc, ← Rat.intCast_mul] at hz
      have := congrArg (· * (p2 d.e)⁻¹) hz
      simp only [Rat.mul_assoc] at this
      rw [Rat.mul_inv_cancel _ (by grind), Rat.mul_one, Rat.mul_one] at this
      exact this
    have e2 : d.m = z * 2 ^ (L - d.e).toNat := by exact_mod_cast e1
    obtain ⟨k, hk⟩ : ∃ k, (L - d.e).toNat = k + 1 := ⟨(L - d.e).toNat - 1, by omega⟩
    rw [hk, Int.pow_succ, ← Int.mul_assoc] at e2
    have := ho.2 h0
    omega
theorem negD_abs (d : D) : (negD d).m.natAbs = d.m.natAbs := by unfold negD; simp
theorem B_size {d : D} (h0 : d.m ≠ 0) {H : Int} (h : B H (val d)) : d.e + (blen d.m.natAbs : Nat) ≤ H + 1 := by
  rcases (show 0 < d.m ∨ d.m < 0 by omega) with h1 | h1
  · have h2 := val_ge_size h1
    have h3 : p2 (d.e + (blen d.m.natAbs : Nat) - 1) ≤ p2 H := by have := h.2; grind
    have := p2_le_iff.1 h3
    omega
  · have h2 := val_ge_size (d := negD d) (by show 0 < -d.m; omega)
    rw [val_neg, negD_abs] at h2
    have h4 : (negD d).e = d.e := rfl
    rw [h4] at h2
    have h3 : p2 (d.e + (blen d.m.natAbs : Nat) - 1) ≤ p2 H := by have := h.1; grind
    have := p2_le_iff.1 h3
    omega
theorem inR_of {d : D} (ho : odd0 d) {L H : Int} (hG : G L (val d)) (hB : B H (val d)) (hL : -60000 ≤ L) (hH : H ≤ 60000) : inR d = true := by
  unfold inR
  by_cases h0 : d.m = 0
  · simp [h0]
  · have h1 := G_e ho h0 hG
    have h2 := B_size h0 hB
    have h3 := blen_pos (n := d.m.natAbs) (by omega)
    have : (d.m == 0) = false := by simp [h0]
    rw [this, Bool.false_or]
    exact decide_eq_true (by omega)
theorem tell_of {d : D} (h : inR d = true) : tell d = (d, 0) := by unfold tell; rw [if_pos h]
structure Okd (d : D) (L H : Int) : Prop where
  w : WD d
  g : G L (val d)
  b : B H (val d)
theorem Okd.mono {d : D} {L H L' H' : Int} (h : Okd d L H) (h1 : L' ≤ L) (h2 : H ≤ H') : Okd d L' H' := ⟨h.w, h.g.mono h1, h.b.mono h2⟩
theorem Okd.neg {d : D} {L H : Int} (h : Okd d L H) : Okd (negD d) L H := ⟨h.w.neg, by rw [val_neg]; exact h.g.neg, by rw [val_neg]; exact h.b.neg⟩
theorem told_ok {d : D} (ho : odd0 d) {L H : Int} (hG : G L (val d)) (hB : B H (val d)) (hL : -60000 ≤ L) (hH : H ≤ 60000) : tell d = (d, 0) ∧ Okd d L H := by
  have ht := tell_of (inR_of ho hG hB hL hH)
  refine ⟨ht, ⟨?_, hG, hB⟩⟩
  have := WD_tell ho
  rw [ht] at this
  exact this
/-- A stretch in bounds. -/
structure OkI (a : I) (L H : Int) : Prop where
  lo : Okd a.lo L H
  hi : Okd a.hi L H
  le : val a.lo ≤ val a.hi
theorem OkI.ok {a : I} {L H : Int} (h : OkI a L H) : okI a := ⟨h.lo.w, h.hi.w, h.le⟩
theorem OkI.mono {a : I} {L H L' H' : Int} (h : OkI a L H) (h1 : L' ≤ L) (h2 : H ≤ H') : OkI a L' H' := ⟨h.lo.mono h1 h2, h.hi.mono h1 h2, h.le⟩
theorem OkI.neg {a : I} {L H : Int} (h : OkI a L H) : OkI (negI a) L H := ⟨h.hi.neg, h.lo.neg, (okI_neg h.ok).2.2⟩
instance : DecidableEq I := fun x y =>
  if h : x.lo = y.lo ∧ x.hi = y.hi then isTrue (by cases x; cases y; simp only at h; rw [h.1, h.2]) else isFalse (fun e => h (by rw [e]; exact ⟨rfl, rfl⟩))
theorem wf_u32 {a : Int} (h : (Lit.int .u32 a).wf = true) : 0 ≤ a ∧ a < 4294967296 := by
  simp [Lit.wf, IntKind.min, IntKind.max, IntKind.signed, IntKind.bits] at h
  omega
theorem wf_i64 {a : Int} (h : (Lit.int .i64 a).wf = true) : -9223372036854775808 ≤ a ∧ a ≤ 9223372036854775807 := by
  simp [Lit.wf, IntKind.min, IntKind.max, IntKind.signed, IntKind.bits] at h
  omega
theorem g_dig {x : ApiDy} (h : gApiDy x) : Dig x.M.Mag := fun d hd => wf_u32 (h.1.2.2 d hd)
theorem g_e {x : ApiDy} (h : gApiDy x) : -9223372036854775808 ≤ x.E ∧ x.E ≤ 9223372036854775807 := wf_i64 h.2
theorem ivNew_eq {p : Nat} (hp : 2 ≤ p ∧ p ≤ 400) : iv_New (p : Int) = some (Sum.inr (0, 0, (p : Int))) := by
  unfold iv_New iv_New_j1
  rw [if_neg (by omega), if_neg (by simp; omega)]
theorem same_eq {x y : I} (hx : okI x) : astrolaberef06_Same (iv x) (iv y) = some (decide (x = y)) := by
  unfold astrolaberef06_Same astrolaberef06_Same_j1
  rw [ivLo, ivLo, ivHi, ivHi, same5_eq hx.1.sz, same5_eq hx.2.1.sz]
  simp only [obind]
  have ext : x = y ↔ x.lo = y.lo ∧ x.hi = y.hi := by
    constructor
    · rintro rfl; exact ⟨rfl, rfl⟩
    · intro h; cases x; cases y; simp only at h; rw [h.1, h.2]
  by_cases h : x.lo = y.lo
  · rw [if_pos (by simpa using h)]
    congr 1
    apply decide_eq_decide.2
    rw [ext]; simp [h]
  · rw [if_neg (by simpa using h)]
    congr 1; symm; apply decide_eq_false
    rintro rfl; exact h rfl
theorem same06_eq {x y : I} (hx : okI x) : astrolabelaw06_same (iv x) (iv y) = some (decide (x = y)) := by
  unfold astrolabelaw06_same
  rw [same_eq hx]; rfl
theorem wrap_low (a : Int) (h : -9223372036854775808 ≤ a ∧ a < 0) : IntKind.i64.wrap (0 - IntKind.i64.wrap (a + 1)) = ((-(a + 1)).toNat : Int) := by
  rw [w64 (x := a + 1) (by omega) (by omega), w64 (by omega) (by omega)]; omega
theorem tame_val {m e : Int} (hm : blen m.natAbs ≤ 128) (he : -90 ≤ e ∧ e ≤ 90) : ∃ d, makeD m e = (d, true) ∧ Okd d (-90) 218 := by
  have hv := val_nrm m e
  have hg : G (-90) (val (nrm m e)) := by rw [hv]; exact G.of (by omega)
  have hb : B 218 (val (nrm m e)) := by
    rw [hv]
    have h1 := blen_lt m.natAbs
    have h2 : m.natAbs ≤ 2 ^ 128 := by
      have : 2 ^ blen m.natAbs ≤ 2 ^ 128 := Nat.pow_le_pow_right (by decide) hm
      omega
    have h3 := rep_bound h2 e
    have h4 := p2_le (show e + ((128 : Nat) : Int) ≤ 218 by omega)
    have hp := p2_pos e
    have h5 : (m : Rat) ≤ (m.natAbs : Rat) ∧ -(m.natAbs : Rat) ≤ (m : Rat) := by
      have e1 := intCast_le (show m ≤ (m.natAbs : Int) by omega)
      have e2 := intCast_le (show -(m.natAbs : Int) ≤ m by omega)
      rw [Rat.intCast_natCast] at e1
      rw [Rat.intCast_neg, Rat.intCast_natCast] at e2
      exact ⟨e1, e2⟩
    have h6 := Rat.mul_le_mul_of_nonneg_right h5.1 (Rat.le_of_lt hp)
    have h7 := Rat.mul_le_mul_of_nonneg_right h5.2 (Rat.le_of_lt hp)
    unfold B
    grind
  obtain ⟨h1, h2⟩ := told_ok (d := nrm m e) (nrm_ok _ _) hg hb (by omega) (by omega)
  refine ⟨nrm m e, ?_, h2⟩
  unfold makeD
  rw [if_pos (inR_of (nrm_ok _ _) hg hb (by omega) (by omega))]
theorem tame06_eq {x : ApiDy} (hx : gApiDy x) : ∃ d, astrolabelaw06_tame x = some (dy d) ∧ Okd d (-90) 218 := by
  have hd := g_dig hx
  have he := g_e hx
  have hml : x.M.Mag.length ≤ 9223372036854775807 := by have := hx.1.2.1; unfold maxLen at this; omega
  have hm : mn (x.M.Mag.length : Int) 4 = ((min x.M.Mag.length 4 : Nat) : Int) := by unfold mn; split <;> omega
  have hb : blen (sg x.M.Neg (dval (x.M.Mag.take (min x.M.Mag.length 4)))).natAbs ≤ 128 := by
    rw [sg_abs']
    have := blen_of_len (dig_take hd (min x.M.Mag.length 4))
    rw [List.length_take] at this
    omega
  have key : ∀ n : Nat, ∃ d, astrolabelaw06_tame_j1 x (n : Int) = some (dy d) ∧ Okd d (-90) 218 := by
    intro n
    obtain ⟨d, h1, h2⟩ := tame_val hb (e := ((n % 181 : Nat) : Int) - 90) (by omega)
    refine ⟨d, ?_, h2⟩
    unfold astrolabelaw06_tame_j1
    rw [hm, if_pos (by omega), Int.toNat_natCast, rMake_eq (dig_take hd _) (by rw [List.length_take]; omega)]
    simp only [obind]
    rw [show (181 : Int) = ((181 : Nat) : Int) by rfl, tmodn, w64 (by omega) (by omega), rMake5_eq (by unfold SZ; omega) (by omega), h1]
    rfl
  unfold astrolabelaw06_tame
  by_cases h0 : x.E < 0
  · rw [if_pos h0, wrap_low _ (by omega)]
    exact key _
  · rw [if_neg h0]
    have := key x.E.toNat
    rwa [Int.toNat_of_nonneg (by omega)] at this
theorem span06_eq {x y : ApiDy} (hx : gApiDy x) (hy : gApiDy y) : ∃ a, astrolabelaw06_span x y = some (iv a) ∧ OkI a (-90) 218 := by
  obtain ⟨c, h1, h2⟩ := tame06_eq hx
  obtain ⟨d, h3, h4⟩ := tame06_eq hy
  unfold astrolabelaw06_span astrolabelaw06_span_j1
  rw [h1, h3]
  simp only [obind]
  rw [rCmp5_eq h2.w h4.w]
  simp only [obind]
  by_cases h : 0 < cmpD c d
  · rw [if_pos h]
    have := (cmpD_gt c d).1 h
    exact ⟨⟨d, c⟩, rfl, h4, h2, by show val d ≤ val c; grind⟩
  · rw [if_neg h]
    have := mt (cmpD_gt c d).2 h
    exact ⟨⟨c, d⟩, rfl, h2, h4, by show val c ≤ val d; grind⟩
theorem five_eq : (⟨⟨⟨false, [5]⟩, (-4)⟩, ⟨⟨false, [11]⟩, (-5)⟩⟩ : ApiIv) = iv ⟨⟨5, -4⟩, ⟨11, -5⟩⟩ := by
  have d5 : digs 5 = [5] := digs_of (l := [5]) (by intro d hd; have : d = 5 := by simpa using hd
                                                   omega) (by simp)
  have d11 : digs 11 = [11] := digs_of (l := [11]) (by intro d hd; have : d = 11 := by simpa using hd
                                                       omega) (by simp)
  unfold iv dy iOf
  simp only
  rw [show (5 : Int).natAbs = 5 by rfl, show (11 : Int).natAbs = 11 by rfl, d5, d11]
  rfl
theorem okI_int {n : Int} (hn : -9223372036854775808 ≤ n ∧ n ≤ 9223372036854775807) : okI (intI n) := okI_point (WD_from hn)
theorem WD_dec {d : D} (h : (decide (d.m % 2 = 1) && decide (-131072 ≤ d.e) && decide (d.e ≤ 131072) && decide (blen d.m.natAbs ≤ 262144)) = true) : WD d := by
  simp only [Bool.and_eq_true, decide_eq_true_eq] at h
  exact ⟨Or.inr ⟨h.1.1.1, h.1.1.2, h.1.2⟩, h.2⟩
theorem examples06 : astrolabelaw06_examples = some true := by
  have hd : divI 4 (intI 1) (intI 3) = (⟨⟨5, -4⟩, ⟨11, -5⟩⟩, 0) := by decide +kernel
  have hW1 : WD ⟨5, -4⟩ := WD_dec (by decide +kernel)
  have hW2 : WD ⟨11, -5⟩ := WD_dec (by decide +kernel)
  have hc : cmpD ⟨5, -4⟩ ⟨11, -5⟩ ≤ 0 := by decide +kernel
  have hok : okI ⟨⟨5, -4⟩, ⟨11, -5⟩⟩ := ⟨hW1, hW2, (cmpD_le _ _).1 hc⟩
  unfold astrolabelaw06_examples astrolabelaw06_examples_j1
  have hN := ivNew_eq (p := 4) (by omega)
  rw [show ((4 : Nat) : Int) = 4 by rfl] at hN
  rw [hN]
  simp only [obind]
  rw [if_neg (by simp), ivInt_eq (by omega), st_zero]
  simp only [obind]
  rw [ivInt_eq (by omega), st_zero]
  simp only [obind]
  have hD := ivDiv_eq (okI_int (n := 1) (by omega)) (okI_int (n := 3) (by omega)) (p := 4) (by omega) 0
  rw [show ((4 : Nat) : Int) = 4 by rfl] at hD
  rw [hD, st_zero, hd]
  simp only [obind]
  rw [five_eq, same06_eq hok]
  simp only [obind]
  unfold iv_trouble_Err iv_Calc_Prec
  rw [if_pos (by simp)]
  simp only [obind, if_true]
  have hh : hasI ⟨⟨5, -4⟩, ⟨11, -5⟩⟩ ⟨5, -4⟩ = true := by decide +kernel
  have := ivHas_eq hok (x := ⟨5, -4⟩) hW1
  rw [hh] at this
  refine Eq.trans (congrArg (fun o => Option.bind o _) this) ?_
  rfl
theorem divI_zero {b : I} (h : hasI b zD = true) (p : Nat) (a : I) : divI p a b = (zI, 3) := by
  unfold divI; rw [if_pos h]
theorem hasI_int0 : hasI (intI 0) zD = true := by decide +kernel
theorem cmpD_zz : cmpD zD zD = 0 := by decide +kernel
theorem zI_blen : blen zI.lo.m.natAbs ≤ 100000 ∧ blen zI.hi.m.natAbs ≤ 100000 := by decide +kernel
theorem IvStays_true (a0 : ApiDy) (g0 : gApiDy a0) (a1 : ApiDy) (g1 : gApiDy a1) (a2 : Int) (g2 : (Lit.int .i64 a2).wf = true) : astrolabelaw06_IvStays a0 a1 a2 = some true := by
  obtain ⟨a, ha1, ha⟩ := span06_eq g0 g1
  have hpp : 2 ≤ 50 ∧ 50 ≤ 400 := by omega
  have hN := ivNew_eq (p := 50) hpp
  have hD := ivDiv_eq ha.ok (okI_int (n := 0) (by omega)) hpp 0
  have hA := ivAdd_eq ha.ok ha.ok hpp 3
  have hI := ivInt_eq (n := a2) (wf_i64 g2) 3 50
  have hI0 := ivInt_eq (n := 0) (by omega) 0 50
  have hM := ivNeg_eq ha.ok 3 50
  have hS := ivSqrt_eq okI_z zI_blen hpp 3
  have hH := ivHullNone_eq (e := 3) (by decide) 50
  have hm := ivMid_eq ha.ok hpp 3
  rw [st_ne (by decide)] at hA hI hM hS hm
  rw [st_zero] at hD hI0
  rw [divI_zero hasI_int0] at hD
  rw [show ((50 : Nat) : Int) = 50 by rfl] at hN hD hA hS hm
  unfold astrolabelaw06_IvStays
  rw [examples06]
  simp only [obind]
  rw [if_neg (by simp), hN]
  simp only [obind]
  rw [if_neg (by simp), ha1]
  simp only [obind]
  rw [hI0]
  simp only [obind]
  rw [hD]
  unfold iv_trouble_Err
  simp only [obind]
  rw [hA]
  simp only [obind]
  rw [hI]
  simp only [obind]
  rw [hM]
  simp only [obind]
  rw [hS]
  simp only [obind]
  rw [hH]
  simp only [obind]
  rw [hm]
  simp only [obind]
  have hs := same06_eq (x := zI) (y := zI) okI_z
  have hc := dyad_Cmp_eq WD_z WD_z
  rw [iv_z] at hs
  rw [dy_z] at hc
  rw [iv_z, dy_z, hs]
  simp only [obind, if_true]
  rw [hc, cmpD_zz]
  rfl
end Go.Proofs.YtpmpcohbpankaaaGreat.Gen
