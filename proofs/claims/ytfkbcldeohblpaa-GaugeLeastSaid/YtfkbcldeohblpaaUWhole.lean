/- A float64 rounded down, and whole numbers written as floats: plain Lean, no program. -/
import Derived.Test.YtfkbcldeohblpaaUOrder
import GoSem.Core.Float
namespace Go.Proofs.Ytfkbcldeohblpaa.U
set_option linter.unusedVariables false
set_option linter.unusedSimpArgs false
open Ieee

/-- The least place: 2^-unitE. -/
def unitE : Nat := 1074

theorem shift_div (m e c : Nat) : (m <<< (e - c)) / 2 ^ (c - e) = m * 2 ^ e / 2 ^ c := by
  rw [Nat.shiftLeft_eq]
  by_cases h : c ≤ e
  · have e1 : m * 2 ^ e = m * 2 ^ (e - c) * 2 ^ c := by rw [Nat.mul_assoc, ← Nat.pow_add, show e - c + c = e by omega]
    rw [show c - e = 0 by omega, Nat.pow_zero, Nat.div_one, e1, Nat.mul_div_cancel _ (Nat.two_pow_pos c)]
  · have e1 : 2 ^ c = 2 ^ (c - e) * 2 ^ e := by rw [← Nat.pow_add, show c - e + e = c by omega]
    rw [show e - c = 0 by omega, Nat.pow_zero, Nat.mul_one, e1, Nat.mul_div_mul_right _ _ (Nat.two_pow_pos e)]

theorem shift_mod (m e c : Nat) : (m <<< (e - c)) % 2 ^ (c - e) = 0 ↔ m * 2 ^ e % 2 ^ c = 0 := by
  rw [Nat.shiftLeft_eq]
  by_cases h : c ≤ e
  · have e1 : m * 2 ^ e = m * 2 ^ (e - c) * 2 ^ c := by rw [Nat.mul_assoc, ← Nat.pow_add, show e - c + c = e by omega]
    rw [show c - e = 0 by omega, Nat.pow_zero, Nat.mod_one, e1, Nat.mul_mod_left]
  · have e1 : 2 ^ c = 2 ^ (c - e) * 2 ^ e := by rw [← Nat.pow_add, show c - e + e = c by omega]
    rw [show e - c = 0 by omega, Nat.pow_zero, Nat.mul_one, e1, Nat.mul_mod_mul_right]
    have := Nat.two_pow_pos e
    constructor
    · intro k; rw [k]; simp
    · intro k
      rcases Nat.mul_eq_zero.mp k with k | k
      · exact k
      · omega

theorem lt_gap {n d : Nat} (h : ¬ d ≤ n.log2 + 2) : n < 2 ^ (n.log2 + 2) ∧ n < 2 ^ d := by
  have h1 : n < 2 ^ (n.log2 + 1) := Nat.lt_log2_self
  have h2 : 2 ^ (n.log2 + 1) ≤ 2 ^ (n.log2 + 2) := Nat.pow_le_pow_right (by omega) (by omega)
  have h3 : 2 ^ (n.log2 + 2) ≤ 2 ^ d := Nat.pow_le_pow_right (by omega) (by omega)
  omega

theorem gap_div (n d : Nat) : n / (1 <<< min d (n.log2 + 2)) = n / 2 ^ d := by
  rw [Nat.shiftLeft_eq, Nat.one_mul]
  by_cases h : d ≤ n.log2 + 2
  · rw [Nat.min_eq_left h]
  · rw [Nat.min_eq_right (by omega), Nat.div_eq_of_lt (lt_gap h).1, Nat.div_eq_of_lt (lt_gap h).2]

theorem gap_mod (n d : Nat) : n % (1 <<< min d (n.log2 + 2)) = n % 2 ^ d := by
  rw [Nat.shiftLeft_eq, Nat.one_mul]
  by_cases h : d ≤ n.log2 + 2
  · rw [Nat.min_eq_left h]
  · rw [Nat.min_eq_right (by omega), Nat.mod_eq_of_lt (lt_gap h).1, Nat.mod_eq_of_lt (lt_gap h).2]

theorem cut_zero (s : Bool) (n d : Nat) : Toward.zero.cut s n d = n / 2 ^ d := by
  unfold Toward.cut
  dsimp only
  rw [gap_div]
  rfl

theorem cut_down (s : Bool) (n d : Nat) : Toward.down.cut s n d = n / 2 ^ d + (s && decide (n % 2 ^ d ≠ 0)).toNat := by
  unfold Toward.cut
  dsimp only
  rw [gap_div, gap_mod]
  cases s
  · simp
  · by_cases h : n % 2 ^ d = 0 <;> simp [h]

/-- To the nearest: of a number without a rest. -/
theorem cut_even_exact (s : Bool) (n d : Nat) (h : n % 2 ^ d = 0) : Toward.even.cut s n d = n / 2 ^ d := by
  unfold Toward.cut
  dsimp only
  rw [gap_div, gap_mod, h]
  have : 0 < 1 <<< min d (n.log2 + 2) := by rw [Nat.shiftLeft_eq, Nat.one_mul]; exact Nat.two_pow_pos _
  have e1 : decide (1 <<< min d (n.log2 + 2) < 2 * 0) = false := by simp
  have e2 : ((1 <<< min d (n.log2 + 2)) == 2 * 0) = false := by simp
  rw [e1, e2]
  simp

/-- The word of a sign and a rung. -/
theorem word_eq (s : Bool) (g : Nat) : double.word s g = if s = true then 9223372036854775808 + g else g := by
  unfold Format.word
  rw [signWeight_eq]

theorem word_lt {s : Bool} {g : Nat} (h : g < 9223372036854775808) : double.word s g < 18446744073709551616 := by
  rw [word_eq]; cases s <;> simp <;> omega
theorem rung_word {s : Bool} {g : Nat} (h : g < 9223372036854775808) : rung (double.word s g) = g := by
  rw [word_eq]; unfold rung; cases s <;> simp <;> omega
theorem minus_word {s : Bool} {g : Nat} (h : g < 9223372036854775808) : minus (double.word s g) = s := by
  rw [word_eq]; unfold minus; cases s <;> simp <;> omega

theorem val_up (E k : Nat) (h1 : 4503599627370496 ≤ k) (h2 : k ≤ 9007199254740992) : val (E * 4503599627370496 + k) = k * 2 ^ E := by
  unfold val
  rw [if_neg (by omega)]
  by_cases h : k = 9007199254740992
  · subst h
    have e1 : (E * 4503599627370496 + 9007199254740992) / 4503599627370496 - 1 = E + 1 := by omega
    have e2 : (E * 4503599627370496 + 9007199254740992) % 4503599627370496 = 0 := by omega
    rw [e1, e2, Nat.pow_succ]
    omega
  · have e1 : (E * 4503599627370496 + k) / 4503599627370496 - 1 = E := by omega
    have e2 : 4503599627370496 + (E * 4503599627370496 + k) % 4503599627370496 = k := by omega
    rw [e1, e2]

/-- A number of any digits, written: the last digit that is kept is no subnormal's. -/
theorem nearest_eq (s : Bool) (M : Nat) (p : Int) (hM : 0 < M) (hp : -1022 ≤ p + M.log2) :
    double.nearest s M p = double.word s (min ((p + M.log2 + 1022).toNat * 4503599627370496 + Toward.even.cut s (M <<< (52 - M.log2)) (M.log2 - 52)) 9218868437227405312) := by
  unfold Format.nearest
  rw [if_neg (by omega)]
  dsimp only
  rw [leastPlace_eq, binade_eq, infRung_eq, show double.fractionBits = 52 from rfl]
  have e1 : max (p + (M.log2 : Int) - (52 : Nat)) (-1074) = p + M.log2 - 52 := by omega
  rw [e1]
  have e2 : (p - (p + (M.log2 : Int) - 52)).toNat = 52 - M.log2 := by omega
  have e3 : (p + (M.log2 : Int) - 52 - p).toNat = M.log2 - 52 := by omega
  have e4 : (p + (M.log2 : Int) - 52 - -1074).toNat = (p + M.log2 + 1022).toNat := by omega
  rw [e2, e3, e4]

theorem log_bounds {M : Nat} (h : 0 < M) : 2 ^ M.log2 ≤ M ∧ M < 2 ^ (M.log2 + 1) := ⟨Nat.log2_self_le (by omega), Nat.lt_log2_self⟩

/-- A whole number with few digits, written: its rung has its amount. -/
theorem nearest_int (s : Bool) (M : Nat) (hM : 0 < M) (hL : M.log2 ≤ 62) (hd : M % 2 ^ (M.log2 - 52) = 0) :
    ∃ g, double.nearest s M 0 = double.word s g ∧ g < 9218868437227405312 ∧ val g = M * 2 ^ unitE := by
  obtain ⟨h1, h2⟩ := log_bounds hM
  have hx : M <<< (52 - M.log2) % 2 ^ (M.log2 - 52) = 0 := by
    rw [Nat.shiftLeft_eq]
    by_cases h : M.log2 ≤ 52
    · rw [show M.log2 - 52 = 0 by omega]; exact Nat.mod_one _
    · rw [show 52 - M.log2 = 0 by omega, Nat.pow_zero, Nat.mul_one]; exact hd
  have hk : ∃ k, Toward.even.cut s (M <<< (52 - M.log2)) (M.log2 - 52) = k ∧ k * 2 ^ M.log2 = M * 2 ^ 52 ∧ 4503599627370496 ≤ k ∧ k < 9007199254740992 := by
    rw [cut_even_exact _ _ _ hx]
    refine ⟨_, rfl, ?_⟩
    rw [Nat.shiftLeft_eq]
    by_cases h : M.log2 ≤ 52
    · rw [show M.log2 - 52 = 0 by omega, Nat.pow_zero, Nat.div_one]
      have e1 : M * 2 ^ (52 - M.log2) * 2 ^ M.log2 = M * 2 ^ 52 := by rw [Nat.mul_assoc, ← Nat.pow_add, show 52 - M.log2 + M.log2 = 52 by omega]
      have e2 : 2 ^ M.log2 * 2 ^ (52 - M.log2) = 4503599627370496 := by rw [← Nat.pow_add, show M.log2 + (52 - M.log2) = 52 by omega]
      have e3 : 2 ^ (M.log2 + 1) * 2 ^ (52 - M.log2) = 9007199254740992 := by rw [← Nat.pow_add, show M.log2 + 1 + (52 - M.log2) = 53 by omega]
      have l1 := Nat.mul_le_mul_right (2 ^ (52 - M.log2)) h1
      have l2 := Nat.mul_lt_mul_of_pos_right h2 (Nat.two_pow_pos (52 - M.log2))
      exact ⟨e1, by omega, by omega⟩
    · rw [show 52 - M.log2 = 0 by omega, Nat.pow_zero, Nat.mul_one]
      have e0 : M / 2 ^ (M.log2 - 52) * 2 ^ (M.log2 - 52) = M := Nat.div_mul_cancel (Nat.dvd_of_mod_eq_zero hd)
      have e1 : M / 2 ^ (M.log2 - 52) * 2 ^ M.log2 = M * 2 ^ 52 := by
        have : 2 ^ M.log2 = 2 ^ (M.log2 - 52) * 2 ^ 52 := by rw [← Nat.pow_add, show M.log2 - 52 + 52 = M.log2 by omega]
        rw [this, ← Nat.mul_assoc, e0]
      refine ⟨e1, ?_, ?_⟩
      · rw [Nat.le_div_iff_mul_le (Nat.two_pow_pos _), show (4503599627370496 : Nat) = 2 ^ 52 by rfl, ← Nat.pow_add, show 52 + (M.log2 - 52) = M.log2 by omega]
        exact h1
      · rw [Nat.div_lt_iff_lt_mul (Nat.two_pow_pos _), show (9007199254740992 : Nat) = 2 ^ 53 by rfl, ← Nat.pow_add, show 53 + (M.log2 - 52) = M.log2 + 1 by omega]
        exact h2
  obtain ⟨k, ek, k1, k2, k3⟩ := hk
  refine ⟨(M.log2 + 1022) * 4503599627370496 + k, ?_, by omega, ?_⟩
  · rw [nearest_eq s M 0 hM (by omega), ek]
    rw [show ((0 : Int) + (M.log2 : Int) + 1022).toNat = M.log2 + 1022 by omega, Nat.min_eq_left (by omega)]
  · have e1 : M.log2 + 1022 = M.log2 + (unitE - 52) := rfl
    have e2 : 52 + (unitE - 52) = unitE := rfl
    rw [val_up _ _ k2 (by omega), e1, Nat.pow_add, ← Nat.mul_assoc, k1, Nat.mul_assoc, ← Nat.pow_add, e2]

/-- The whole part of an amount, and whether something is left. -/
def whole (g : Nat) : Nat := val g / 2 ^ unitE
def left (g : Nat) : Bool := decide (val g % 2 ^ unitE ≠ 0)

theorem whole_lt {g : Nat} (h : g < 4886405595696988160) : whole g < 4611686018427387904 := by
  unfold whole
  rw [Nat.div_lt_iff_lt_mul (Nat.two_pow_pos _)]
  have e : val 4886405595696988160 = 4611686018427387904 * 2 ^ unitE := by
    unfold val
    rw [if_neg (by omega), show 4886405595696988160 / 4503599627370496 - 1 = 10 + unitE by unfold unitE; omega, Nat.pow_add, show 4503599627370496 + 4886405595696988160 % 4503599627370496 = 4503599627370496 by omega, ← Nat.mul_assoc]
  have := val_lt h
  omega

theorem integral_eq {b : Nat} (h : b < 18446744073709551616) (hg : rung b < 9218868437227405312) (way : Toward) (M : Nat)
    (hM : way.cut (minus b) (mag (rung b) <<< (place (rung b) - unitE)) (unitE - place (rung b)) = M) :
    (double.read b).integral way = .number (minus b) M 0 := by
  rw [read_number h hg]
  unfold Datum.integral
  dsimp only
  rw [show ((-1074 : Int) + (place (rung b) : Nat)).toNat = place (rung b) - unitE by unfold unitE; omega, show (-((-1074 : Int) + (place (rung b) : Nat))).toNat = unitE - place (rung b) by unfold unitE; omega, hM]

theorem cut_zero_val (s : Bool) (g : Nat) : Toward.zero.cut s (mag g <<< (place g - unitE)) (unitE - place g) = whole g := by
  rw [cut_zero, shift_div, ← val_eq]
  rfl

theorem cut_down_val (s : Bool) (g : Nat) : Toward.down.cut s (mag g <<< (place g - unitE)) (unitE - place g) = whole g + (s && left g).toNat := by
  rw [cut_down, shift_div, ← val_eq]
  have e : decide ((mag g <<< (place g - unitE)) % 2 ^ (unitE - place g) ≠ 0) = left g := by
    unfold left
    rw [decide_eq_decide, val_eq]
    exact not_congr (shift_mod _ _ _)
  rw [e]
  rfl

theorem toInt_zero {b : Nat} (h : b < 18446744073709551616) (hg : rung b < 9218868437227405312) :
    (double.read b).toInt .zero = some (if minus b = true then -((whole (rung b) : Nat) : Int) else ((whole (rung b) : Nat) : Int)) := by
  unfold Datum.toInt
  rw [integral_eq h hg .zero _ (cut_zero_val _ _)]
  dsimp only
  unfold signed
  rw [Nat.shiftLeft_zero]

theorem mag_lt (g : Nat) : mag g < 9007199254740992 := by unfold mag; split <;> omega

/-- THE FLOOR. -/
def floorOf (b : Nat) : Int := if minus b = true then -((whole (rung b) + (left (rung b)).toNat : Nat) : Int) else ((whole (rung b) : Nat) : Int)

theorem floor_digits {s : Bool} {g : Nat} (h : g < 4886405595696988160) (M : Nat) (hM : whole g + (s && left g).toNat = M) (h0 : 0 < M) :
    M.log2 ≤ 62 ∧ M % 2 ^ (M.log2 - 52) = 0 := by
  have hw := whole_lt h
  have hb : (s && left g).toNat ≤ 1 := by cases (s && left g) <;> decide
  have hm := mag_lt g
  obtain ⟨l1, l2⟩ := log_bounds h0
  constructor
  · rcases Nat.lt_or_ge 62 M.log2 with k | k
    · have : 2 ^ 63 ≤ 2 ^ M.log2 := Nat.pow_le_pow_right (by omega) (by omega)
      have e : (2 : Nat) ^ 63 = 9223372036854775808 := by rfl
      omega
    · exact k
  · by_cases hp : unitE ≤ place g
    · have e1 : val g = mag g * 2 ^ (place g - unitE) * 2 ^ unitE := by rw [val_eq, Nat.mul_assoc, ← Nat.pow_add, show place g - unitE + unitE = place g by omega]
      have e2 : left g = false := by unfold left; rw [e1, Nat.mul_mod_left]; rfl
      have e3 : whole g = mag g * 2 ^ (place g - unitE) := by unfold whole; rw [e1, Nat.mul_div_cancel _ (Nat.two_pow_pos _)]
      rw [e2, e3] at hM
      have e4 : M = mag g * 2 ^ (place g - unitE) := by rw [← hM]; simp
      have hlt : M.log2 - 52 ≤ place g - unitE := by
        rcases Nat.lt_or_ge (place g - unitE) (M.log2 - 52) with k | k
        · have a1 : 2 ^ (53 + (place g - unitE)) ≤ 2 ^ M.log2 := Nat.pow_le_pow_right (by omega) (by omega)
          have a2 : 2 ^ (53 + (place g - unitE)) = 9007199254740992 * 2 ^ (place g - unitE) := by rw [Nat.pow_add]
          have a3 := Nat.mul_lt_mul_of_pos_right hm (Nat.two_pow_pos (place g - unitE))
          omega
        · exact k
      rw [e4]
      obtain ⟨d, hd⟩ : ∃ d, place g - unitE = d + (M.log2 - 52) := ⟨place g - unitE - (M.log2 - 52), by omega⟩
      rw [← e4]
      have e5 : M = mag g * 2 ^ d * 2 ^ (M.log2 - 52) := by
        conv => lhs; rw [e4, hd, Nat.pow_add, ← Nat.mul_assoc]
      exact Nat.mod_eq_zero_of_dvd ⟨mag g * 2 ^ d, by rw [Nat.mul_comm]; exact e5⟩
    · have e1 : whole g = mag g / 2 ^ (unitE - place g) := by
        have := shift_div (mag g) (place g) unitE
        unfold whole
        rw [val_eq, ← this, show place g - unitE = 0 by omega, Nat.shiftLeft_zero]
      have e2 : mag g / 2 ^ (unitE - place g) ≤ mag g / 2 := by
        refine Nat.div_le_div_left ?_ (by omega)
        have : 2 ^ 1 ≤ 2 ^ (unitE - place g) := Nat.pow_le_pow_right (by omega) (by omega)
        omega
      have e3 : M.log2 ≤ 52 := by
        rcases Nat.lt_or_ge 52 M.log2 with k | k
        · have : 2 ^ 53 ≤ 2 ^ M.log2 := Nat.pow_le_pow_right (by omega) (by omega)
          have e : (2 : Nat) ^ 53 = 9007199254740992 := by rfl
          omega
        · exact k
      rw [show M.log2 - 52 = 0 by omega]
      exact Nat.mod_one _

/-- WHAT math.Floor AND THE CONVERSION BEHIND IT GIVE. -/
theorem floor_told {b : Nat} (h : b < 18446744073709551616) (hg : rung b < 4886405595696988160) :
    double.write ((double.read b).integral .down) < 18446744073709551616 ∧ (double.read (double.write ((double.read b).integral .down))).toInt .zero = some (floorOf b) := by
  rw [integral_eq h (by omega) .down _ (cut_down_val _ _)]
  generalize hM : whole (rung b) + (minus b && left (rung b)).toNat = M
  change double.nearest (minus b) M 0 < _ ∧ (double.read (double.nearest (minus b) M 0)).toInt .zero = _
  have hf : floorOf b = if minus b = true then -((M : Nat) : Int) else ((M : Nat) : Int) := by
    unfold floorOf
    rw [← hM]
    cases minus b <;> simp
  by_cases h0 : M = 0
  · subst h0
    have e : double.nearest (minus b) 0 0 = double.word (minus b) 0 := rfl
    have hz : whole 0 = 0 := by unfold whole val; simp
    rw [e, toInt_zero (word_lt (by omega)) (by rw [rung_word (by omega)]; omega), rung_word (by omega), minus_word (by omega), hz, hf]
    exact ⟨word_lt (by omega), rfl⟩
  · obtain ⟨d1, d2⟩ := floor_digits hg M hM (by omega)
    obtain ⟨g, e, g1, g2⟩ := nearest_int (minus b) M (by omega) d1 d2
    have hw : whole g = M := by unfold whole; rw [g2, Nat.mul_div_cancel _ (Nat.two_pow_pos _)]
    rw [e, toInt_zero (word_lt (by omega)) (by rw [rung_word (by omega)]; exact g1), rung_word (by omega), minus_word (by omega), hw, hf]
    exact ⟨word_lt (by omega), rfl⟩

end Go.Proofs.Ytfkbcldeohblpaa.U
