/- What Need says of 1, of 2, and of a whole rate: plain Lean. -/
import Derived.Test.YtfkbcldeohblpaaURatio
import Derived.Test.YtfkbcldeohblpaaGaugeWholeWalkX
namespace Go.Proofs.Ytfkbcldeohblpaa.U
open Go.RowKit
set_option linter.unusedVariables false
set_option linter.unusedSimpArgs false

theorem twice (V U : Nat) (hU : 0 < U) : V / U + (decide (V % U ≠ 0)).toNat ≤ V * 2 / U + (decide (V * 2 % U ≠ 0)).toNat ∧ V * 2 / U + (decide (V * 2 % U ≠ 0)).toNat ≤ 2 * (V / U + (decide (V % U ≠ 0)).toNat) := by
  have hr := Nat.mod_lt V hU
  have hs : V * 2 = U * (2 * (V / U)) + 2 * (V % U) := by
    have := Nat.div_add_mod V U
    have e : U * (2 * (V / U)) = 2 * (U * (V / U)) := by rw [← Nat.mul_assoc, Nat.mul_comm U 2, Nat.mul_assoc]
    omega
  have d1 : V * 2 / U = 2 * (V / U) + 2 * (V % U) / U := by rw [hs, Nat.mul_add_div hU]
  have d2 : V * 2 % U = 2 * (V % U) % U := by rw [hs, Nat.mul_add_mod]
  rw [d1, d2]
  generalize V / U = q at *
  generalize V % U = r at *
  clear hs d1 d2
  by_cases c : 2 * r < U
  · rw [Nat.div_eq_of_lt c, Nat.mod_eq_of_lt c]
    by_cases z : r = 0
    · subst z; simp; omega
    · rw [decide_eq_true z, decide_eq_true (show 2 * r ≠ 0 by omega)]; simp; omega
  · have e1 : 2 * r / U = 1 := by rw [Nat.div_eq_iff hU]; omega
    have hr0 : r ≠ 0 := by omega
    have : (decide (2 * r % U ≠ 0)).toNat ≤ 1 := by cases decide (2 * r % U ≠ 0) <;> decide
    rw [e1, decide_eq_true hr0]
    simp only [Bool.toNat_true]
    omega

theorem wholeN_one (g : Nat) : wholeN g 1 = whole g := by unfold wholeN whole; rw [Nat.mul_one]
theorem leftN_one (g : Nat) : leftN g 1 = left g := by unfold leftN left; rw [Nat.mul_one]

theorem good_of (a N : Nat) (hN : N ≤ 1000) (h : (gneed a N).2 = 0) : rung a < 9218868437227405312 ∧ (minus a = false ∨ rung a = 0) ∧ wholeN (rung a) N < 4611686018427387904 := by
  unfold gneed at h
  by_cases c : 9218868437227405312 ≤ rung a ∨ (minus a = true ∧ rung a ≠ 0) ∨ (N : Int) < 0 ∨ (N : Int) > 1000
  · rw [if_pos c] at h; exact absurd h (by decide)
  · rw [if_neg c, Int.toNat_natCast] at h
    have h1 : rung a < 9218868437227405312 := by
      rcases Nat.lt_or_ge (rung a) 9218868437227405312 with k | k
      · exact k
      · exact absurd (Or.inl k) c
    refine ⟨h1, ?_, ?_⟩
    · cases hm : minus a
      · exact Or.inl rfl
      · right
        apply Decidable.byContradiction
        intro k
        exact c (Or.inr (Or.inl ⟨hm, k⟩))
    · rcases Nat.lt_or_ge (wholeN (rung a) N) 4611686018427387904 with k | k
      · exact k
      · rw [if_pos k] at h; exact absurd h (by decide)

theorem left_small {g : Nat} (h : left g = true) : whole g < 9007199254740992 := by
  have hm := mag_lt g
  by_cases hp : unitE ≤ place g
  · have e1 : val g = mag g * 2 ^ (place g - unitE) * 2 ^ unitE := by rw [val_eq, Nat.mul_assoc, ← Nat.pow_add, show place g - unitE + unitE = place g by omega]
    have e2 : left g = false := by unfold left; rw [e1, Nat.mul_mod_left]; rfl
    rw [e2] at h
    exact absurd h (by decide)
  · have e1 : whole g = mag g / 2 ^ (unitE - place g) := by
      have := shift_div (mag g) (place g) unitE
      unfold whole
      rw [val_eq, ← this, show place g - unitE = 0 by omega, Nat.shiftLeft_zero]
    have := Nat.div_le_self (mag g) (2 ^ (unitE - place g))
    omega

/-- Once: as many as its floor, and one more if it is not whole; twice: between. -/
theorem once_twice (a : Nat) (h : (gneed a 1).2 = 0) : ∃ K L : Nat, L ≤ 1 ∧ K + L < 4611686018427387904 ∧ gneed a 1 = (((K + L : Nat) : Int), 0) ∧ gfloor a = ((K : Int), 0) ∧
    ((gneed a 2).2 = 2 ∨ ∃ T : Nat, gneed a 2 = ((T : Int), 0) ∧ K + L ≤ T ∧ T ≤ 2 * (K + L) ∧ T ≤ 4611686018427387904) := by
  obtain ⟨h1, h2, h3⟩ := good_of a 1 (by omega) h
  have e1 := gneed_good a 1 h1 h2 (by omega)
  have e2 := gneed_good a 2 h1 h2 (by omega)
  rw [wholeN_one] at h3
  rw [wholeN_one, leftN_one, if_neg (show ¬ 4611686018427387904 ≤ whole (rung a) by omega)] at e1
  have hl : (left (rung a)).toNat ≤ 1 := by cases left (rung a) <;> decide
  have h4 : whole (rung a) + (left (rung a)).toNat < 4611686018427387904 := by
    cases hq : left (rung a)
    · simp; omega
    · have := left_small hq
      simp; omega
  refine ⟨whole (rung a), (left (rung a)).toNat, hl, h4, e1, ?_, ?_⟩
  · unfold gfloor
    have hr : rung a < 4886405595696988160 := by
      rcases Nat.lt_or_ge (rung a) 4886405595696988160 with k | k
      · exact k
      · have := whole_ge k; omega
    rw [if_pos hr]
    unfold floorOf
    rcases h2 with h2 | h2
    · rw [h2]; rfl
    · rw [h2, left_zero, whole_small (by omega)]
      simp
  · by_cases big : 4611686018427387904 ≤ wholeN (rung a) 2
    · left
      have e2' : gneed a 2 = ((0, 2) : Int × Int) := by
        have := e2
        rw [if_pos big] at this
        exact this
      rw [e2']
    · right
      have e2' : gneed a 2 = (((wholeN (rung a) 2 + (leftN (rung a) 2).toNat : Nat) : Int), 0) := by
        have := e2
        rw [if_neg big] at this
        exact this
      have t := twice (val (rung a)) (2 ^ unitE) (Nat.two_pow_pos _)
      have hl2 : (leftN (rung a) 2).toNat ≤ 1 := by cases leftN (rung a) 2 <;> decide
      exact ⟨_, e2', t.1, t.2, by omega⟩

/-- As many as a whole rate is, each time. -/
theorem need_whole (k N : Nat) (hk : k ≤ 1099511627776) (hN : N ≤ 1000) : gneed (floatOfInt .f64 (k : Int)) N = (((k * N : Nat) : Int), 0) ∧ floatOfInt .f64 (k : Int) < 18446744073709551616 := by
  have hb : k * N ≤ 1099511627776 * 1000 := Nat.mul_le_mul hk hN
  by_cases h0 : k = 0
  · subst h0
    rw [show ((0 : Nat) : Int) = 0 from rfl, float_zero, gneed_good 0 N (by decide) (Or.inl (by decide)) hN]
    have e1 : wholeN (rung 0) N = 0 := by
      unfold wholeN
      have : val (rung 0) = 0 := by decide +kernel
      rw [this, Nat.zero_mul, Nat.zero_div]
    have e2 : leftN (rung 0) N = false := by
      unfold leftN
      have : val (rung 0) = 0 := by decide +kernel
      rw [this, Nat.zero_mul, Nat.zero_mod]
      rfl
    rw [e1, e2, Nat.zero_mul]
    exact ⟨rfl, by decide⟩
  · obtain ⟨g, e, g1, g2, g3⟩ := float_nat k (by omega) hk
    have hr : rung g = g := by unfold rung; omega
    have hm : minus g = false := by unfold minus; exact decide_eq_false (by omega)
    rw [e, gneed_good g N (by rw [hr]; exact g1) (Or.inl hm) hN, hr]
    have ee : val g * N = k * N * 2 ^ unitE := by rw [g3, Nat.mul_assoc, Nat.mul_comm (2 ^ unitE), ← Nat.mul_assoc]
    have e1 : wholeN g N = k * N := by unfold wholeN; rw [ee, Nat.mul_div_cancel _ (Nat.two_pow_pos _)]
    have e2 : leftN g N = false := by unfold leftN; rw [ee, Nat.mul_mod_left]; rfl
    rw [e1, e2, if_neg (by omega)]
    exact ⟨rfl, by omega⟩

end Go.Proofs.Ytfkbcldeohblpaa.U
