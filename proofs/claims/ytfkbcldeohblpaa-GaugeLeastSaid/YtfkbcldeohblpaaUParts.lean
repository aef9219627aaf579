/- gauge.parts and bits.Len64 on numbers told by their bits: contracts. -/
import Derived.Test.YtfkbcldeohblpaaUFlat
import Derived.Test.YtfkbcldeohblpaaUWhole
namespace Go.Proofs.Ytfkbcldeohblpaa.U
open Go.RowKit Go.Proofs.YtfkbcldeohblpaaW.PrintWords Go.Proofs.YtfkbcldeohblpaaW.PrintLast Go.Proofs.YtfkbcldeohblpaaW.PrintMore
set_option linter.unusedVariables false
set_option linter.unusedSimpArgs false

theorem and_low (b : Nat) (hb : b < 18446744073709551616) : bits .and .u64 (b : Int) 4503599627370495 = ((rung b % 4503599627370496 : Nat) : Int) := by
  rw [show (4503599627370495 : Int) = ((4503599627370495 : Nat) : Int) from rfl, u64_and_nat b _ hb (by omega)]
  have e : b &&& 4503599627370495 = b % 2 ^ 52 := Nat.and_two_pow_sub_one_eq_mod b 52
  rw [e]
  unfold rung
  omega

theorem and_high (b : Nat) (hb : b < 18446744073709551616) : bits .and .u64 ((b : Int) / 4503599627370496) 2047 = ((rung b / 4503599627370496 : Nat) : Int) := by
  rw [show (b : Int) / 4503599627370496 = ((b / 4503599627370496 : Nat) : Int) from rfl, show (2047 : Int) = ((2047 : Nat) : Int) from rfl, u64_and_nat _ _ (by omega) (by omega)]
  have e : b / 4503599627370496 &&& 2047 = b / 4503599627370496 % 2 ^ 11 := Nat.and_two_pow_sub_one_eq_mod _ 11
  rw [e]
  unfold rung
  omega

theorem or_high (m : Nat) (h : m < 4503599627370496) : bits .or .u64 (m : Int) 4503599627370496 = ((4503599627370496 + m : Nat) : Int) := by
  rw [show (4503599627370496 : Int) = ((4503599627370496 : Nat) : Int) from rfl, u64_or_nat _ _ (by omega) (by omega)]
  have e : 2 ^ 52 * 1 + m = 2 ^ 52 * 1 ||| m := Nat.two_pow_add_eq_or_of_lt h 1
  have e2 : m ||| 4503599627370496 = 2 ^ 52 * 1 ||| m := Nat.or_comm _ _
  rw [e2, ← e]

set_option maxHeartbeats 8000000
theorem parts_calls (b : Nat) (hb : b < 18446744073709551616) (w : World) : Calls Try.prog 75 #[.float .f64 b] w fun e w' => e = .returned (.tuple #[.int .u64 (mag (rung b) : Nat), .int .i64 (-1074 + (place (rung b) : Nat))]) ∧ Drawn0 w w' := by
  have h62 := run62
  have a1 := and_low b hb
  have a2 := and_high b hb
  have hr : rung b < 9223372036854775808 := by unfold rung; omega
  have hm : rung b % 4503599627370496 < 4503599627370496 := by omega
  have a3 := or_high _ hm
  have a4 : wrap64 ((rung b / 4503599627370496 : Nat) : Int) = ((rung b / 4503599627370496 : Nat) : Int) := by unfold wrap64; omega
  by_cases c : rung b < 4503599627370496
  · have e1 : mag (rung b) = rung b % 4503599627370496 := by unfold mag; rw [if_pos c]; omega
    have e2 : place (rung b) = 0 := by unfold place; rw [if_pos c]
    have e3 : rung b / 4503599627370496 = 0 := by omega
    rw [e1, e2]
    generalize rung b % 4503599627370496 = m at *
    rw [e3] at a2
    clear a4
    have a4 : wrap64 0 = 0 := by decide +kernel
    go_enter Try.func75, Try.ntmps75
    go_wp2
    go_ret2
    exact ⟨rfl, by repeat (first | exact Drawn0.refl _ | apply Drawn0.step)⟩
  · have e1 : mag (rung b) = 4503599627370496 + rung b % 4503599627370496 := by unfold mag; rw [if_neg c]
    have e2 : ((-1074 : Int) + (place (rung b) : Nat)) = (rung b / 4503599627370496 : Nat) - 1075 := by unfold place; rw [if_neg c]; omega
    have e3 : ¬ (((rung b / 4503599627370496 : Nat) : Int) = 0) := by omega
    have e4 : wrap64 (((rung b / 4503599627370496 : Nat) : Int) - 1075) = ((rung b / 4503599627370496 : Nat) : Int) - 1075 := by unfold wrap64; omega
    rw [e1, e2]
    generalize rung b % 4503599627370496 = m at *
    generalize rung b / 4503599627370496 = E at *
    have e5 : (((E : Nat) : Int) == 0) = false := by rw [beq_eq_false_iff_ne]; exact e3
    go_enter Try.func75, Try.ntmps75
    go_wp2
    go_ret2
    exact ⟨(show Ending.returned (Value.tuple #[Value.int IntKind.u64 (4503599627370496 + (m : Int)), Value.int IntKind.i64 (wrap64 ((E : Int) - 1075))]) = _ by rw [e4]; rfl), by repeat (first | exact Drawn0.refl _ | apply Drawn0.step)⟩


end Go.Proofs.Ytfkbcldeohblpaa.U
