/- The document's parts, whole, Floor and Need are gauge's: plain Lean. -/
import Derived.Test.YtfkbcldeohblpaaURank
import Derived.Test.YtfkbcldeohblpaaUNeed
import Derived.Test.YtfkbcldeohblpaaURefs2
namespace Go.Proofs.Ytfkbcldeohblpaa.U
open Go.RowKit Go.Proofs.YtfkbcldeohblpaaW.PrintWords Go.Proofs.YtfkbcldeohblpaaW.PrintLast Go.Proofs.YtfkbcldeohblpaaW.PrintMore
set_option linter.unusedVariables false
set_option linter.unusedSimpArgs false

theorem bool_mod (m : Nat) : (((m % 2 : Nat) : Int) == 1) = decide (m % 2 ≠ 0) := by
  rw [Bool.eq_iff_iff, beq_iff_eq, decide_eq_true_eq]
  omega

theorem down_law (j : Nat) : ∀ (m : Nat) (l : Bool) (k : Nat), m < 9223372036854775808 → j < k → j ≤ 2000 →
    oakumref01_whole.l1 k (m : Int) (-(j : Int)) l = some (if 4611686018427387904 ≤ m / 2 ^ j then (0, false, false) else (((m / 2 ^ j : Nat) : Int), (l || decide (m % 2 ^ j ≠ 0)), true)) := by
  induction j with
  | zero =>
    intro m l k hm hk hj
    obtain ⟨k', rfl⟩ : ∃ k', k = k' + 1 := ⟨k - 1, by omega⟩
    unfold oakumref01_whole.l1
    rw [if_neg (by omega), Nat.pow_zero, Nat.div_one, Nat.mod_one]
    by_cases c : 4611686018427387904 ≤ m
    · rw [if_pos (by omega), if_pos c]
    · have w1 : wrap64 (m : Int) = (m : Int) := by unfold wrap64; omega
      rw [if_neg (by omega), if_neg c, w1]
      simp
  | succ j ih =>
    intro m l k hm hk hj
    obtain ⟨k', rfl⟩ : ∃ k', k = k' + 1 := ⟨k - 1, by omega⟩
    unfold oakumref01_whole.l1
    rw [if_pos (by omega)]
    have e1 : m / 2 / 2 ^ j = m / 2 ^ (j + 1) := by rw [Nat.div_div_eq_div_mul, Nat.pow_succ, Nat.mul_comm]
    have e2 : m % 2 ^ (j + 1) = m % 2 + 2 * (m / 2 % 2 ^ j) := by rw [Nat.pow_succ, Nat.mul_comm, Nat.mod_mul]
    have e3 : Int.tdiv (m : Int) 2 = ((m / 2 : Nat) : Int) := by rw [Int.tdiv_eq_ediv_of_nonneg (by omega)]; rfl
    have e4 : Int.tmod (m : Int) 2 = ((m % 2 : Nat) : Int) := by rw [Int.tmod_eq_emod_of_nonneg (by omega)]; rfl
    have e5 : IntKind.u64.wrap ((m / 2 : Nat) : Int) = ((m / 2 : Nat) : Int) := u64_wrap (by omega)
    by_cases c : m = 0
    · subst c
      rw [if_neg (by decide), if_neg (by decide), Nat.zero_div, Nat.zero_mod, if_neg (by omega)]
      rw [show wrap64 ((0 : Nat) : Int) = ((0 : Nat) : Int) by decide +kernel]
      simp
    · have hpos : ((m : Nat) : Int) > 0 := by omega
      have hlt : m / 2 < 9223372036854775808 := by omega
      have hkk : j < k' := by omega
      have hjj : j ≤ 2000 := by omega
      have e7 : decide (m % 2 ^ (j + 1) ≠ 0) = (decide (m % 2 ≠ 0) || decide (m / 2 % 2 ^ j ≠ 0)) := by
        rw [Bool.eq_iff_iff, Bool.or_eq_true, decide_eq_true_eq, decide_eq_true_eq, decide_eq_true_eq]
        generalize m / 2 % 2 ^ j = u at *
        omega
      have e6 : wrap64 (-((j + 1 : Nat) : Int) + 1) = -(j : Int) := by clear e5; unfold wrap64; omega
      rw [if_pos hpos, e3, e4, e5, e6, bool_mod, e7, ← e1]
      cases l
      · rw [if_neg (by decide), ih _ _ _ hlt hkk hjj]
        simp
      · rw [if_pos rfl, ih _ _ _ hlt hkk hjj]
        simp

theorem up_law (e : Nat) : ∀ (m k : Nat), m < 9223372036854775808 → e + 2 ≤ k → e ≤ 2000 → 0 < e →
    oakumref01_whole.l0 k (m : Int) (e : Int) = some (if 4611686018427387904 ≤ m * 2 ^ e then (0, false, false) else (((m * 2 ^ e : Nat) : Int), false, true)) := by
  induction e with
  | zero => intro m k _ _ _ h; omega
  | succ e ih =>
    intro m k hm hk he h0
    obtain ⟨k', rfl⟩ : ∃ k', k = k' + 1 := ⟨k - 1, by omega⟩
    unfold oakumref01_whole.l0
    have e1 : m * 2 ^ (e + 1) = 2 * m * 2 ^ e := by rw [Nat.pow_succ, Nat.mul_comm (2 ^ e) 2, ← Nat.mul_assoc, Nat.mul_comm m 2]
    rw [if_pos (by omega), e1]
    have hp := Nat.two_pow_pos e
    by_cases c : 2305843009213693952 ≤ m
    · have : 2 * m * 1 ≤ 2 * m * 2 ^ e := Nat.mul_le_mul_left _ hp
      rw [if_pos (by omega), if_pos (by omega)]
    · have e5 : IntKind.u64.wrap (2 * (m : Int)) = ((2 * m : Nat) : Int) := by
        have := u64_wrap (x := 2 * m) (by omega)
        rw [← this]
        push_cast
        rfl
      have e6 : wrap64 (((e + 1 : Nat) : Int) - 1) = (e : Int) := by clear e5; unfold wrap64; omega
      rw [if_neg (by omega), e5, e6]
      by_cases z : e = 0
      · subst z
        obtain ⟨k2, rfl⟩ : ∃ k2, k' = k2 + 1 := ⟨k' - 1, by omega⟩
        unfold oakumref01_whole.l0
        rw [if_neg (by omega)]
        have := down_law 0 (2 * m) false k2 (by omega) (by omega) (by omega)
        rw [show (-((0 : Nat) : Int)) = ((0 : Nat) : Int) from rfl] at this
        rw [this, Nat.pow_zero, Nat.div_one, Nat.mul_one, Nat.mod_one]
        simp
      · exact ih (2 * m) k' (by omega) (by omega) (by omega) (by omega)

/-- The document's whole, of an amount m * 2^P in units of 2^-1074. -/
theorem ref_whole (m P : Nat) (hm : m < 9223372036854775808) (hP : P ≤ 2046) :
    oakumref01_whole.f 3000 (m : Int) (-1074 + (P : Int)) = some (if 4611686018427387904 ≤ m * 2 ^ P / 2 ^ unitE then (0, false, false) else (((m * 2 ^ P / 2 ^ unitE : Nat) : Int), decide (m * 2 ^ P % 2 ^ unitE ≠ 0), true)) := by
  have s1 := shift_div m P unitE
  have s2 := shift_mod m P unitE
  have s3 : decide (m * 2 ^ P % 2 ^ unitE ≠ 0) = decide ((m <<< (P - unitE)) % 2 ^ (unitE - P) ≠ 0) := by
    rw [decide_eq_decide]
    exact not_congr s2.symm
  rw [← s1, s3]
  unfold oakumref01_whole.f
  by_cases c : 1074 < P
  · have e1 : unitE - P = 0 := by unfold unitE; omega
    have e2 : P - unitE = P - 1074 := rfl
    rw [e1, e2, Nat.pow_zero, Nat.div_one, Nat.mod_one, Nat.shiftLeft_eq, show (-1074 + (P : Int)) = ((P - 1074 : Nat) : Int) by omega, up_law (P - 1074) m 3000 hm (by omega) (by omega) (by omega)]
    rfl
  · have e1 : P - unitE = 0 := by unfold unitE; omega
    have e2 : unitE - P = 1074 - P := rfl
    rw [e1, e2, Nat.shiftLeft_zero, show (-1074 + (P : Int)) = -((1074 - P : Nat) : Int) by omega]
    unfold oakumref01_whole.l0
    rw [if_neg (by omega), down_law (1074 - P) m false 2999 hm (by omega) (by omega), Bool.false_or]

theorem ref_parts (b : Nat) (hb : b < 18446744073709551616) : oakumref01_parts.f (b : Int) = some (((mag (rung b) : Nat) : Int), (-1074 : Int) + ((place (rung b) : Nat) : Int)) := by
  have hl := rung_le b
  unfold oakumref01_parts.f
  rw [ref_exponent b hb, ref_fraction]
  dsimp only [Option.bind_some]
  unfold mag place
  generalize rung b = g at *
  by_cases c : g < 4503599627370496
  · rw [if_pos (by omega), if_pos c, if_pos c]
    congr 1
    rw [Prod.mk.injEq]
    constructor <;> omega
  · have c' : ¬ ((g / 4503599627370496 : Nat) : Int) = 0 := by omega
    rw [if_neg c', if_neg c, if_neg c]
    congr 1
    have e1 := u64_wrap (x := 4503599627370496 + g % 4503599627370496) (by omega)
    have e2 : wrap64 (((g / 4503599627370496 : Nat) : Int) - 1075) = -1074 + ((g / 4503599627370496 - 1 : Nat) : Int) := by clear e1; unfold wrap64; omega
    have e3 : (4503599627370496 : Int) + ((g % 4503599627370496 : Nat) : Int) = ((4503599627370496 + g % 4503599627370496 : Nat) : Int) := by clear e1 e2; omega
    rw [e2, e3, e1]

theorem ref_kind_k (b : Nat) (hb : b < 18446744073709551616) : ∀ k, oakumref01_Kind.f (k + 2) (b : Int) = some (kind b)
  | 0 => ref_kind b hb
  | k + 1 => oakumref01_Kind.mono (b : Int) (k + 2) _ (ref_kind_k b hb k)

theorem whole_ge {g : Nat} (h : 4886405595696988160 ≤ g) : 4611686018427387904 ≤ whole g := by
  unfold whole
  rw [Nat.le_div_iff_mul_le (Nat.two_pow_pos _)]
  have e : val 4886405595696988160 = 4611686018427387904 * 2 ^ unitE := by
    unfold val
    rw [if_neg (by omega), show 4886405595696988160 / 4503599627370496 - 1 = 10 + unitE by unfold unitE; omega, Nat.pow_add, show 4503599627370496 + 4886405595696988160 % 4503599627370496 = 4503599627370496 by omega, ← Nat.mul_assoc]
  rcases Nat.lt_or_ge 4886405595696988160 g with k | k
  · have := val_lt k; omega
  · have : g = 4886405595696988160 := by omega
    rw [this]; omega

theorem kind_bad (b : Nat) : (kind b = 0 ∨ kind b = 1) ↔ 9218868437227405312 ≤ rung b := by
  unfold kind isNaN
  by_cases c : 9218868437227405312 < rung b
  · rw [decide_eq_true c, if_pos rfl]; simp; omega
  · rw [decide_eq_false c, if_neg (by decide)]
    by_cases c2 : rung b = 9218868437227405312
    · rw [if_pos c2]; simp; omega
    · rw [if_neg c2]
      by_cases c3 : rung b = 0
      · rw [if_pos c3]; omega
      · rw [if_neg c3]; split <;> omega

theorem minus_f (x : Nat) : oakumref01_Minus.f (x : Int) = some (minus x) := by
  unfold oakumref01_Minus.f minus
  congr 1
  rw [decide_eq_decide]
  omega

theorem ref_floor (b k : Nat) (h3 : k = 3000) (hb : b < 18446744073709551616) : oakumref01_Floor.f (k + 1) (b : Int) = some (gfloor b) := by
  have hk : oakumref01_Kind.f (k + 1) (b : Int) = some (kind b) := by subst h3; exact ref_kind_k b hb 2999
  unfold oakumref01_Floor.f
  rw [hk]
  dsimp only [Option.bind_some]
  have hbad := kind_bad b
  by_cases c : 9218868437227405312 ≤ rung b
  · have hr : gfloor b = (0, 2) := by unfold gfloor; rw [if_neg (by omega)]
    rw [hr]
    rcases hbad.mpr c with h | h
    · rw [if_pos h]; rfl
    · rw [if_neg (by omega), h]; rfl
  · have hn : kind b ≠ 0 ∧ kind b ≠ 1 := ⟨fun h => c (hbad.mp (Or.inl h)), fun h => c (hbad.mp (Or.inr h))⟩
    have h1 : (kind b == 1) = false := by rw [beq_eq_false_iff_ne]; exact hn.2
    rw [if_neg hn.1, h1]
    unfold oakumref01_Floor.j0
    have hM := mag_lt (rung b)
    have hP : place (rung b) ≤ 2046 := by unfold place; split <;> omega
    dsimp only
    rw [if_neg (show ¬ (false = true) by decide), ref_parts b hb]
    dsimp only [Option.bind_some]
    rw [h3, ref_whole _ _ (by omega) hP, ← val_eq]
    change (some (if 4611686018427387904 ≤ whole (rung b) then ((0 : Int), false, false) else (((whole (rung b) : Nat) : Int), left (rung b), true))).bind _ = _
    rw [Option.bind_some]
    unfold gfloor
    by_cases big : rung b < 4886405595696988160
    · have hw := whole_lt big
      have nb : ¬ 4611686018427387904 ≤ whole (rung b) := by omega
      rw [if_neg nb, if_pos big, if_pos (show (true = true) from rfl), minus_f, Option.bind_some]
      unfold floorOf
      cases minus b
      · rfl
      · rw [if_pos rfl, if_pos rfl]
        generalize whole (rung b) = K at *
        cases left (rung b)
        · have w1 : wrap64 (-(K : Int)) = -(K : Int) := by unfold wrap64; omega
          rw [if_neg (show ¬ (false = true) by decide)]
          dsimp only
          rw [w1]
          rfl
        · have w1 : wrap64 (-(K : Int)) = -(K : Int) := by unfold wrap64; omega
          have w2 : wrap64 (-(K : Int) - 1) = -((K + 1 : Nat) : Int) := by clear w1; unfold wrap64; omega
          rw [if_pos (show (true = true) from rfl)]
          dsimp only
          rw [w1, w2]
          rfl
    · have hw := whole_ge (g := rung b) (by omega)
      rw [if_pos hw, if_neg big]
      rfl

theorem kind_zero (b : Nat) : kind b = 2 ↔ rung b = 0 := by
  unfold kind isNaN
  by_cases c : 9218868437227405312 < rung b
  · rw [decide_eq_true c, if_pos rfl]; omega
  · rw [decide_eq_false c, if_neg (by decide)]
    by_cases c2 : rung b = 9218868437227405312
    · rw [if_pos c2]; omega
    · rw [if_neg c2]
      by_cases c3 : rung b = 0
      · rw [if_pos c3]; omega
      · rw [if_neg c3]; split <;> omega

end Go.Proofs.Ytfkbcldeohblpaa.U
