/- gauge.Ratio of a whole number and 1: a contract, and what its bits are. -/
import Derived.Test.YtfkbcldeohblpaaUNeed
namespace Go.Proofs.Ytfkbcldeohblpaa.U
open Go.RowKit Go.Proofs.YtfkbcldeohblpaaW.PrintWords Go.Proofs.YtfkbcldeohblpaaW.PrintLast Go.Proofs.YtfkbcldeohblpaaW.PrintMore
set_option linter.unusedVariables false
set_option linter.unusedSimpArgs false
open Ieee

theorem float_one : floatOfInt .f64 1 = 4607182418800017408 := by decide +kernel
theorem float_zero : floatOfInt .f64 0 = 0 := by decide +kernel

/-- A whole number that is not too great, as a float. -/
theorem float_nat (k : Nat) (h0 : 0 < k) (h : k ≤ 1099511627776) : ∃ g, floatOfInt .f64 (k : Int) = g ∧ g < 9218868437227405312 ∧ 4503599627370496 ≤ g ∧ val g = k * 2 ^ unitE := by
  have hL : k.log2 ≤ 52 := by
    rcases Nat.lt_or_ge 52 k.log2 with c | c
    · have h1 := (log_bounds h0).1
      have : 2 ^ 53 ≤ 2 ^ k.log2 := Nat.pow_le_pow_right (by omega) (by omega)
      have e : (2 : Nat) ^ 53 = 9007199254740992 := rfl
      omega
    · exact c
  obtain ⟨g, e, g1, g2⟩ := nearest_int false k h0 (by omega) (by rw [show k.log2 - 52 = 0 by omega]; exact Nat.mod_one _)
  refine ⟨g, ?_, g1, ?_, g2⟩
  · have e1 : floatOfInt .f64 (k : Int) = double.nearest (decide ((k : Int) < 0)) ((k : Int).natAbs) 0 := rfl
    rw [e1, decide_eq_false (by omega), Int.natAbs_natCast, e, word_eq]
    rfl
  · rcases Nat.lt_or_ge g 4503599627370496 with c | c
    · have e2 : val g = g := by unfold val; rw [if_pos c]
      have h3 : 2 ^ 52 ≤ 2 ^ unitE := Nat.pow_le_pow_right (by omega) (by unfold unitE; omega)
      have e3 : (2 : Nat) ^ 52 = 4503599627370496 := rfl
      have := Nat.mul_le_mul_right (2 ^ unitE) h0
      omega
    · exact c

theorem log2_mul8 (m : Nat) (h1 : 4503599627370496 ≤ m) (h2 : m < 9007199254740992) : (8 * m).log2 = 55 := by
  rw [Nat.log2_eq_iff (by omega)]
  have e1 : (2 : Nat) ^ 55 = 36028797018963968 := rfl
  have e2 : (2 : Nat) ^ (55 + 1) = 72057594037927936 := rfl
  omega

/-- A normal number divided by 1. -/
theorem div_one (g : Nat) (h1 : 4503599627370496 ≤ g) (h2 : g < 9218868437227405312) : double.div g 4607182418800017408 = some g := by
  have hr : rung g = g := by unfold rung; omega
  have hm : minus g = false := by unfold minus; exact decide_eq_false (by omega)
  have hM : mag g = 4503599627370496 + g % 4503599627370496 := by unfold mag; rw [if_neg (by omega)]
  have hP : place g = g / 4503599627370496 - 1 := by unfold place; rw [if_neg (by omega)]
  have r1 := read_number (b := g) (by omega) (by rw [hr]; exact h2)
  have r2 : double.read 4607182418800017408 = .number false 4503599627370496 (-52) := by decide +kernel
  have hlog : (mag g).log2 = 52 := by
    rw [Nat.log2_eq_iff (by omega)]
    have e1 : (2 : Nat) ^ 52 = 4503599627370496 := rfl
    have e2 : (2 : Nat) ^ (52 + 1) = 9007199254740992 := rfl
    omega
  have hlog1 : (4503599627370496 : Nat).log2 = 52 := by decide +kernel
  unfold Format.div
  rw [r1, r2, hr, hm]
  have e54 : double.fractionBits + 2 = 54 := rfl
  have q : (Datum.number false (mag g) (-1074 + ((place g : Nat) : Int))).quotient (double.fractionBits + 2) (.number false 4503599627370496 (-52)) = some (.number false (8 * mag g) (-1077 + ((place g : Nat) : Int))) := by
    unfold Datum.quotient
    dsimp only
    rw [if_neg (by omega), hlog, hlog1, e54]
    have e1 : mag g <<< (54 + 52 - 52) = 4503599627370496 * (4 * mag g) := by
      rw [Nat.shiftLeft_eq]
      have : (2 : Nat) ^ (54 + 52 - 52) = 18014398509481984 := rfl
      rw [this]
      omega
    rw [e1, Nat.mul_div_cancel_left _ (by omega), Nat.mul_mod_right]
    rw [Option.some.injEq, Datum.number.injEq]
    refine ⟨rfl, ?_, by omega⟩
    rw [show ((0 : Nat) != 0) = false from rfl, Bool.toNat_false]
    omega
  rw [q]
  change some (double.nearest false (8 * mag g) (-1077 + ((place g : Nat) : Int))) = some g
  refine congrArg some ?_
  have hl8 := log2_mul8 (mag g) (by omega) (by omega)
  rw [nearest_eq _ _ _ (by omega) (by rw [hl8]; omega), hl8]
  have e2 : (-1077 + ((place g : Nat) : Int) + ((55 : Nat) : Int) + 1022).toNat = place g := by omega
  have e3 : (8 * mag g) <<< (52 - 55) = 8 * mag g := by rw [show 52 - 55 = 0 from rfl, Nat.shiftLeft_zero]
  rw [e2, e3, cut_even_exact _ _ _ (by rw [show (2 : Nat) ^ (55 - 52) = 8 from rfl]; omega), show (2 : Nat) ^ (55 - 52) = 8 from rfl, Nat.mul_div_cancel_left _ (by omega), word_eq, if_neg (by decide), Nat.min_eq_left (by omega)]
  omega

theorem div_zero_one : double.div 0 4607182418800017408 = some 0 := by decide +kernel

theorem quo_one (k : Nat) (h : k ≤ 1099511627776) : floatBits .quo .f64 (floatOfInt .f64 (k : Int)) (floatOfInt .f64 1) = some (floatOfInt .f64 (k : Int)) := by
  rw [float_one]
  by_cases h0 : k = 0
  · subst h0
    rw [show ((0 : Nat) : Int) = 0 from rfl, float_zero]
    exact div_zero_one
  · obtain ⟨g, e, g1, g2, g3⟩ := float_nat k (by omega) h
    rw [e]
    exact div_one g g2 g1

set_option maxHeartbeats 8000000
theorem ratio_one_calls (k : Nat) (h : k ≤ 1099511627776) (w : World) : Calls Try.prog 49 #[.int .i64 (k : Int), .int .i64 1] w fun e w' => e = .returned (.float .f64 (floatOfInt .f64 (k : Int))) ∧ Drawn0 w w' := by
  have hq : ∀ w, (binOp .quo 65 (.float .f64 (floatOfInt .f64 (k : Int))) (.float .f64 (floatOfInt .f64 1))).run Try.prog w = .ok (.float .f64 (floatOfInt .f64 (k : Int))) w := fun w => run_float_arith w .quo 65 .f64 _ _ _ (quo_one k h)
  have c1 : ∀ w, (convert 2 65 (.int .i64 (k : Int))).run Try.prog w = .ok (.float .f64 (floatOfInt .f64 (k : Int))) w := fun w => run_convert_int_float w 2 65 .i64 .f64 _ (by rw [Try.underlying2]; rfl) Try.underlying65
  have c2 : ∀ w, (convert 2 65 (.int .i64 1)).run Try.prog w = .ok (.float .f64 (floatOfInt .f64 1)) w := fun w => run_convert_int_float w 2 65 .i64 .f64 _ (by rw [Try.underlying2]; rfl) Try.underlying65
  generalize floatOfInt .f64 (k : Int) = F at *
  generalize floatOfInt .f64 1 = G at *
  go_enter Try.func49, Try.ntmps49
  go_wp2
  go_ret
  exact ⟨rfl, by repeat (first | exact Drawn0.refl _ | apply Drawn0.step)⟩

end Go.Proofs.Ytfkbcldeohblpaa.U
