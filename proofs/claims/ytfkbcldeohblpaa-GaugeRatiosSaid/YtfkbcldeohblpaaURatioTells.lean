/- What the bits of gauge.Ratio tell: its floor, its class, its sign. Plain Lean, no program. -/
import Derived.Test.YtfkbcldeohblpaaURatios
import Derived.Test.YtfkbcldeohblpaaURank
namespace Go.Proofs.Ytfkbcldeohblpaa.U
open Go.RowKit
set_option linter.unusedVariables false
set_option linter.unusedSimpArgs false
open Ieee

/-- The quotient rounded down, as the law puts it. -/
def downQuot (a b : Int) : Int := if a.tmod b ≠ 0 ∧ (decide (a < 0) ≠ decide (b < 0)) then a.tdiv b - 1 else a.tdiv b

theorem downQuot_abs (a b : Int) (hb : b ≠ 0) :
    downQuot a b = if (decide (a < 0) ^^ decide (b < 0)) = true then -((a.natAbs / b.natAbs + (decide (a.natAbs % b.natAbs ≠ 0)).toNat : Nat) : Int) else ((a.natAbs / b.natAbs : Nat) : Int) := by
  have hq : ∀ x y : Nat, Int.tdiv (x : Int) (y : Int) = ((x / y : Nat) : Int) := fun x y => rfl
  have hr : ∀ x y : Nat, Int.tmod (x : Int) (y : Int) = ((x % y : Nat) : Int) := fun x y => rfl
  unfold downQuot
  rcases Int.natAbs_eq a with ea | ea <;> rcases Int.natAbs_eq b with eb | eb
  · rw [ea, eb, hq, hr]
    simp only [Int.natAbs_natCast]
    rw [decide_eq_false (by omega), decide_eq_false (by omega)]
    simp
  · rw [ea, eb, Int.tdiv_neg, Int.tmod_neg, hq, hr]
    simp only [Int.natAbs_natCast, Int.natAbs_neg]
    have hB : 0 < b.natAbs := by omega
    generalize a.natAbs = A at *
    generalize b.natAbs = B at *
    rw [decide_eq_false (show ¬ (A : Int) < 0 by omega), decide_eq_true (show -(B : Int) < 0 by omega)]
    by_cases z : A % B = 0
    · rw [z]; simp
    · rw [if_pos ⟨by omega, by decide⟩, decide_eq_true z]
      simp
      omega
  · rw [ea, eb, Int.neg_tdiv, Int.neg_tmod, hq, hr]
    simp only [Int.natAbs_natCast, Int.natAbs_neg]
    have hB : 0 < b.natAbs := by omega
    by_cases za : a.natAbs = 0
    · rw [za]; simp
    · generalize a.natAbs = A at *
      generalize b.natAbs = B at *
      rw [decide_eq_true (show -(A : Int) < 0 by omega), decide_eq_false (show ¬ (B : Int) < 0 by omega)]
      by_cases z : A % B = 0
      · rw [z]; simp
      · rw [if_pos ⟨by omega, by decide⟩, decide_eq_true z]
        simp
        omega
  · rw [ea, eb, Int.neg_tdiv, Int.neg_tmod, Int.tdiv_neg, Int.tmod_neg, hq, hr]
    simp only [Int.natAbs_natCast, Int.natAbs_neg]
    have hB : 0 < b.natAbs := by omega
    by_cases za : a.natAbs = 0
    · rw [za]; simp
    · generalize a.natAbs = A at *
      generalize b.natAbs = B at *
      rw [decide_eq_true (show -(A : Int) < 0 by omega), decide_eq_true (show -(B : Int) < 0 by omega)]
      simp

/-- By a number that is not 0. -/
theorem ratio_tells (a b : Int) (ha : a.natAbs ≤ 1048576) (hb : b.natAbs ≤ 1048576) (h0 : b ≠ 0) :
    ∃ r, floatBits .quo .f64 (floatOfInt .f64 a) (floatOfInt .f64 b) = some r ∧ r < 18446744073709551616 ∧ gfloor r = (downQuot a b, 0) ∧ (a = 0 → (decide (comp r 0 < 0) = decide (b < 0))) := by
  obtain ⟨gb, eb, b0, b1, vb⟩ := float_int b h0 (by omega)
  by_cases za : a = 0
  · subst za
    have q : floatBits .quo .f64 (floatOfInt .f64 0) (floatOfInt .f64 b) = some (double.word (decide (b < 0)) 0) := by
      rw [eb, float_zero]
      change double.div 0 _ = _
      have mb0 := mag_ge b0
      have r2 := read_number (b := double.word (decide (b < 0)) gb) (word_lt (by omega)) (by rw [rung_word (by omega)]; exact b1)
      rw [rung_word (by omega), minus_word (by omega)] at r2
      have r1 : double.read 0 = .number false 0 (-1074) := by decide +kernel
      unfold Format.div
      rw [r1, r2]
      unfold Datum.quotient
      dsimp only
      rw [if_neg (by omega), Nat.zero_shiftLeft, Nat.zero_div, Nat.zero_mod, Bool.false_xor]
      rfl
    refine ⟨_, q, word_lt (by omega), ?_, fun _ => ?_⟩
    · unfold gfloor floorOf
      rw [rung_word (by omega), if_pos (by omega)]
      have hw : whole 0 = 0 := by unfold whole val; simp
      have hl : left 0 = false := by unfold left val; simp
      have hd : downQuot 0 b = 0 := by unfold downQuot; simp
      rw [hw, hl, hd]
      simp
    · rw [comp_rank]
      cases hm : decide (b < 0)
      · decide +kernel
      · decide +kernel
  · obtain ⟨ga, ea, a0, a1, va⟩ := float_int a za (by omega)
    obtain ⟨g, e, g1, g2, g3⟩ := div_words (decide (a < 0)) (decide (b < 0)) ga gb a.natAbs b.natAbs a0 a1 b0 b1 va vb (by omega) ha (by omega) hb
    refine ⟨_, ?_, word_lt (s := decide (a < 0) ^^ decide (b < 0)) (g := g) (by omega), ?_, fun h => absurd h za⟩
    · rw [ea, eb]; exact e
    · unfold gfloor floorOf
      rw [rung_word (by omega), if_pos (by omega), minus_word (by omega), g2, g3, downQuot_abs a b h0]

/-- By 0: an infinity with the first one's sign. -/
theorem ratio_inf (a : Int) (ha : a.natAbs ≤ 1048576) (h0 : a ≠ 0) :
    ∃ r, floatBits .quo .f64 (floatOfInt .f64 a) (floatOfInt .f64 0) = some r ∧ r < 18446744073709551616 ∧ kind r = 1 ∧ decide (comp r 0 < 0) = decide (a < 0) := by
  obtain ⟨ga, ea, a0, a1, va⟩ := float_int a h0 (by omega)
  have q : floatBits .quo .f64 (floatOfInt .f64 a) (floatOfInt .f64 0) = some (double.word (decide (a < 0)) 9218868437227405312) := by
    rw [ea, float_zero]
    change double.div _ 0 = _
    have ma0 := mag_ge a0
    have r1 := read_number (b := double.word (decide (a < 0)) ga) (word_lt (by omega)) (by rw [rung_word (by omega)]; exact a1)
    rw [rung_word (by omega), minus_word (by omega)] at r1
    have r2 : double.read 0 = .number false 0 (-1074) := by decide +kernel
    unfold Format.div
    rw [r1, r2]
    unfold Datum.quotient
    dsimp only
    rw [if_pos rfl, if_neg (by omega), Bool.xor_false]
    rfl
  refine ⟨_, q, word_lt (by omega), ?_, ?_⟩
  · cases hm : decide (a < 0) <;> decide +kernel
  · cases hm : decide (a < 0) <;> rw [comp_rank] <;> decide +kernel

theorem ratio_nan : floatBits .quo .f64 (floatOfInt .f64 0) (floatOfInt .f64 0) = none := by
  rw [float_zero]
  decide +kernel

/-- What the language leaves open of an invalid quotient: the bits of a NaN. -/
theorem nan_cut (x y t : Nat) : (Question.nanBits .f64 x y).cut t < 18446744073709551616 ∧ isNaN ((Question.nanBits .f64 x y).cut t) = true := by
  have e : (Question.nanBits .f64 x y).cut t = (t % 2) * 2 ^ 63 + 0x7ff0000000000000 + 1 + (t / 2) % (2 ^ 52 - 1) := rfl
  rw [e]
  have h1 : t % 2 < 2 := Nat.mod_lt _ (by omega)
  have h2 : (t / 2) % (2 ^ 52 - 1) < 2 ^ 52 - 1 := Nat.mod_lt _ (by decide)
  generalize (t / 2) % (2 ^ 52 - 1) = y at *
  generalize t % 2 = z at *
  have e1 : (2 : Nat) ^ 63 = 9223372036854775808 := rfl
  have e2 : (2 : Nat) ^ 52 - 1 = 4503599627370495 := rfl
  rw [e1]
  rw [e2] at h2
  unfold isNaN rung
  rw [decide_eq_true_eq]
  omega

end Go.Proofs.Ytfkbcldeohblpaa.U
