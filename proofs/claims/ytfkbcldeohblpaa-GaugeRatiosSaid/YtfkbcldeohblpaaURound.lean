/- Rounding to the nearest stays within half a unit: plain Lean. -/
import Derived.Test.YtfkbcldeohblpaaUWhole
namespace Go.Proofs.Ytfkbcldeohblpaa.U
set_option linter.unusedVariables false
set_option linter.unusedSimpArgs false
open Ieee

theorem cut_even_bound (s : Bool) (n d : Nat) (hd : d ≤ n.log2 + 2) :
    2 * (Toward.even.cut s n d * 2 ^ d) ≤ 2 * n + 2 ^ d ∧ 2 * n ≤ 2 * (Toward.even.cut s n d * 2 ^ d) + 2 ^ d := by
  unfold Toward.cut
  dsimp only
  rw [Nat.min_eq_left hd, Nat.shiftLeft_eq, Nat.one_mul]
  have hs : n = n / 2 ^ d * 2 ^ d + n % 2 ^ d := by rw [Nat.mul_comm]; exact (Nat.div_add_mod _ _).symm
  have hr := Nat.mod_lt n (Nat.two_pow_pos d)
  generalize 2 ^ d = G at *
  generalize n / G = q at *
  generalize n % G = r at *
  by_cases c1 : G < 2 * r
  · have e : (decide (G < 2 * r) || G == 2 * r && q % 2 == 1) = true := by rw [decide_eq_true c1]; rfl
    rw [e, Bool.toNat_true, Nat.add_mul, Nat.one_mul]
    omega
  · by_cases c2 : G = 2 * r
    · have hb : (decide (G < 2 * r) || G == 2 * r && q % 2 == 1).toNat ≤ 1 := by cases (decide (G < 2 * r) || G == 2 * r && q % 2 == 1) <;> decide
      rcases Nat.lt_or_ge 0 (decide (G < 2 * r) || G == 2 * r && q % 2 == 1).toNat with h | h
      · have e : (decide (G < 2 * r) || G == 2 * r && q % 2 == 1).toNat = 1 := by omega
        rw [e, Nat.add_mul, Nat.one_mul]
        omega
      · have e : (decide (G < 2 * r) || G == 2 * r && q % 2 == 1).toNat = 0 := by omega
        rw [e, Nat.add_zero]
        omega
    · have e : (decide (G < 2 * r) || G == 2 * r && q % 2 == 1) = false := by
        rw [decide_eq_false c1, Bool.false_or, Bool.and_eq_false_iff]
        left
        rw [beq_eq_false_iff_ne]
        exact c2
      rw [e, Bool.toNat_false, Nat.add_zero]
      omega

/-- The quotient of two digits, rounded, stays within five of them. -/
theorem kept_close (D m' mag K : Nat) (h1 : 0 < m') (hmag : mag = 2 * (D / m') + (D % m' != 0).toNat) (k1 : K ≤ mag + 4) (k2 : mag ≤ K + 4) :
    K * m' ≤ 2 * D + 5 * m' ∧ 2 * D ≤ K * m' + 5 * m' := by
  have hs := Nat.div_add_mod D m'
  have hr := Nat.mod_lt D h1
  generalize D / m' = q at *
  generalize D % m' = r at *
  have e : m' * q = q * m' := Nat.mul_comm _ _
  by_cases z : r = 0
  · subst z
    have hm : mag = 2 * q := by rw [hmag]; rfl
    have a1 := Nat.mul_le_mul_right m' k1
    have a2 := Nat.mul_le_mul_right m' k2
    rw [hm, Nat.add_mul, Nat.mul_assoc] at a1
    rw [hm, Nat.add_mul, Nat.mul_assoc] at a2
    omega
  · have hm : mag = 2 * q + 1 := by
      have hb : (r != 0) = true := by rw [bne_iff_ne]; exact z
      rw [hmag, hb]; rfl
    have a1 := Nat.mul_le_mul_right m' k1
    have a2 := Nat.mul_le_mul_right m' k2
    rw [hm, Nat.add_mul, Nat.add_mul, Nat.mul_assoc] at a1
    rw [hm, Nat.add_mul, Nat.add_mul, Nat.mul_assoc] at a2
    omega

end Go.Proofs.Ytfkbcldeohblpaa.U
