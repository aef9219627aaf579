/- The small functions of gauge and math on numbers told by their bits: contracts. -/
import Derived.Test.YtfkbcldeohblpaaPLayoutTellsx1
import Derived.Test.YtfkbcldeohblpaaUOrder
import Derived.Laws.Externs
import Derived.Laws.Cover2
import Derived.Laws.BitsAllLaws
namespace Go.Proofs.Ytfkbcldeohblpaa.U
open Go.RowKit Go.Proofs.YtfkbcldeohblpaaW.PrintWords Go.Proofs.YtfkbcldeohblpaaW.PrintLast Go.Proofs.YtfkbcldeohblpaaW.PrintMore
set_option linter.unusedVariables false
set_option linter.unusedSimpArgs false

theorem run60 (n : Int) (w : World) : (callFunc 60 #[.int .u64 n]).run Try.prog w = .ok (.value (.float .f64 n.toNat)) w := by
  rw [run_callFunc_extern (e := Extern.MathFloatBits.float64frombits) Try.func60 (by rfl) (by rfl) (by kernel_rfl) (by kernel_rfl)]
  rfl
theorem run62 (b : Nat) (w : World) : (callFunc 62 #[.float .f64 b]).run Try.prog w = .ok (.value (.int .u64 b)) w := by
  rw [run_callFunc_extern (e := Extern.MathFloatBits.float64bits) Try.func62 (by rfl) (by rfl) (by kernel_rfl) (by kernel_rfl)]
  rfl

theorem binF_eql (t : TypeId) (a b : Nat) : binOp .eql t (.float .f64 a) (.float .f64 b) = pure (.bool (fEq a b)) := binOp_float_cmp_eql t .f64 a b
theorem binF_neq (t : TypeId) (a b : Nat) : binOp .neq t (.float .f64 a) (.float .f64 b) = pure (.bool (!fEq a b)) := binOp_float_cmp_neq t .f64 a b
theorem binF_lss (t : TypeId) (a b : Nat) : binOp .lss t (.float .f64 a) (.float .f64 b) = pure (.bool (fLt a b)) := binOp_float_cmp_lss t .f64 a b
theorem binF_gtr (t : TypeId) (a b : Nat) : binOp .gtr t (.float .f64 a) (.float .f64 b) = pure (.bool (fGt a b)) := binOp_float_cmp_gtr t .f64 a b
theorem binF_geq (t : TypeId) (a b : Nat) : binOp .geq t (.float .f64 a) (.float .f64 b) = pure (.bool (fGt a b || fEq a b)) := binOp_float_cmp_geq t .f64 a b
attribute [local go_sem high] binF_eql binF_neq binF_lss binF_gtr binF_geq



set_option maxHeartbeats 8000000
theorem of_calls (n : Int) (w : World) : Calls Try.prog 37 #[.int .u64 n] w fun e w' => e = .returned (.float .f64 n.toNat) ∧ Drawn0 w w' := by
  have h60 := run60
  go_enter Try.func37, Try.ntmps37
  go_wp2
  go_ret
  exact ⟨rfl, by repeat (first | exact Drawn0.refl _ | apply Drawn0.step)⟩

theorem isNaN_calls (b : Nat) (hb : b < 18446744073709551616) (w : World) : Calls Try.prog 61 #[.float .f64 b] w fun e w' => e = .returned (.bool (isNaN b)) ∧ Drawn0 w w' := by
  have ho : isNaN b = !(fEq b b) := by rw [fEq_self hb]; simp
  rw [ho]
  go_enter Try.func61, Try.ntmps61
  go_wp2
  go_ret
  exact ⟨rfl, by repeat (first | exact Drawn0.refl _ | apply Drawn0.step)⟩

theorem bits_calls (b : Nat) (hb : b < 18446744073709551616) (w : World) : Calls Try.prog 39 #[.float .f64 b] w fun e w' => e = .returned (.int .u64 (if isNaN b = true then 9221120237041090560 else (b : Int))) ∧ Drawn0 w w' := by
  have h62 := run62
  cases hn : isNaN b
  · go_enter Try.func39, Try.ntmps39
    go_wp2_with (go_at_call 61; refine (isNaN_calls b hb _).mono ?_; rw [hn]; rintro e w' ⟨rfl, ⟨n1, rfl⟩⟩)
    go_ret
    exact ⟨rfl, by repeat (first | exact Drawn0.refl _ | apply Drawn0.step)⟩
  · go_enter Try.func39, Try.ntmps39
    go_wp2_with (go_at_call 61; refine (isNaN_calls b hb _).mono ?_; rw [hn]; rintro e w' ⟨rfl, ⟨n1, rfl⟩⟩)
    go_ret
    exact ⟨rfl, by repeat (first | exact Drawn0.refl _ | apply Drawn0.step)⟩

theorem andNot_eq (b : Nat) (hb : b < 18446744073709551616) : bits .andNot .u64 (b : Int) 9223372036854775808 = ((rung b : Nat) : Int) := by
  rw [show (9223372036854775808 : Int) = ((9223372036854775808 : Nat) : Int) from rfl, u64_andNot_nat b _ hb (by omega)]
  exact congrArg _ (Nat.and_two_pow_sub_one_eq_mod b 63)

theorem abs_calls (b : Nat) (hb : b < 18446744073709551616) (w : World) : Calls Try.prog 64 #[.float .f64 b] w fun e w' => e = .returned (.float .f64 (rung b)) ∧ Drawn0 w w' := by
  have h62 := run62
  have h60 := run60
  have ha := andNot_eq b hb
  go_enter Try.func64, Try.ntmps64
  go_wp2
  go_ret
  exact ⟨rfl, by repeat (first | exact Drawn0.refl _ | apply Drawn0.step)⟩

theorem signbit_calls (b : Nat) (hb : b < 18446744073709551616) (w : World) : Calls Try.prog 70 #[.float .f64 b] w fun e w' => e = .returned (.bool (minus b)) ∧ Drawn0 w w' := by
  have h62 := run62
  have h60 := run60
  have hm : minus b = decide (wrap64 (b : Int) < 0) := by
    unfold minus
    rw [decide_eq_decide]
    unfold wrap64
    omega
  rw [hm]
  go_enter Try.func70, Try.ntmps70
  go_wp2
  go_ret
  exact ⟨rfl, by repeat (first | exact Drawn0.refl _ | apply Drawn0.step)⟩

theorem rung_lt (b : Nat) : rung b < 18446744073709551616 := by unfold rung; omega
theorem rung_rung (b : Nat) : rung (rung b) = rung b := by unfold rung; omega
theorem key_rung (b : Nat) : key (rung b) = ((rung b : Nat) : Int) := by
  unfold key
  rw [if_neg (by unfold rung; omega), rung_rung]
theorem isNaN_rung (b : Nat) : isNaN (rung b) = isNaN b := by unfold isNaN; rw [rung_rung]

theorem isInf_calls (b : Nat) (hb : b < 18446744073709551616) (hn : isNaN b = false) (w : World) : Calls Try.prog 63 #[.float .f64 b, .int .i64 0] w fun e w' => e = .returned (.bool (decide (rung b = 9218868437227405312))) ∧ Drawn0 w w' := by
  have hm : decide (rung b = 9218868437227405312) = fGt (rung b) 9218868437227405311 := by
    rw [fGt_key (rung_lt b) (by omega) (by rw [isNaN_rung]; exact hn) (by rfl), key_rung, decide_eq_decide, show key 9218868437227405311 = 9218868437227405311 by rfl]
    have := of_decide_eq_false hn
    omega
  rw [hm]
  go_enter Try.func63, Try.ntmps63
  go_wp2_with (go_at_call 64; refine (abs_calls b hb _).mono ?_; rintro e w' ⟨rfl, ⟨n1, rfl⟩⟩)
  go_ret
  exact ⟨rfl, by repeat (first | exact Drawn0.refl _ | apply Drawn0.step)⟩

/-- A truth as a number. -/
def fl (b : Bool) : Int := if b = true then 1 else 0

theorem flag_calls (b : Bool) (w : World) : Calls Try.prog 67 #[.bool b] w fun e w' => e = .returned (.int .i64 (fl b)) ∧ Drawn0 w w' := by
  cases b
  · go_enter Try.func67, Try.ntmps67
    go_wp2
    go_ret
    exact ⟨rfl, by repeat (first | exact Drawn0.refl _ | apply Drawn0.step)⟩
  · go_enter Try.func67, Try.ntmps67
    go_wp2
    go_ret
    exact ⟨rfl, by repeat (first | exact Drawn0.refl _ | apply Drawn0.step)⟩

/-- The class. -/
def kind (b : Nat) : Int := if isNaN b = true then 0 else if rung b = 9218868437227405312 then 1 else if rung b = 0 then 2 else if rung b < 4503599627370496 then 3 else 4

theorem kind_calls (b : Nat) (hb : b < 18446744073709551616) (w : World) : Calls Try.prog 41 #[.float .f64 b] w fun e w' => e = .returned (.int .i64 (kind b)) ∧ Drawn0 w w' := by
  unfold kind
  cases hn : isNaN b
  · have k1 : fEq b 0 = decide (rung b = 0) := by
      rw [fEq_key hb (by omega) hn (by rfl), key_abs, decide_eq_decide, show key 0 = 0 by rfl]
      split <;> omega
    have k2 : fLt (rung b) 4503599627370496 = decide (rung b < 4503599627370496) := by
      rw [fLt_key (rung_lt b) (by omega) (by rw [isNaN_rung]; exact hn) (by rfl), key_rung, decide_eq_decide, show key 4503599627370496 = 4503599627370496 by rfl]
      omega
    by_cases c1 : rung b = 9218868437227405312
    · have d1 := decide_eq_true c1
      go_enter Try.func41, Try.ntmps41
      go_wp2_with (first | (go_at_call 61; refine (isNaN_calls b hb _).mono ?_; rw [hn]; rintro e w' ⟨rfl, ⟨n1, rfl⟩⟩) | (go_at_call 63; refine (isInf_calls b hb hn _).mono ?_; rw [d1]; rintro e w' ⟨rfl, ⟨n2, rfl⟩⟩))
      go_ret
      exact ⟨rfl, by repeat (first | exact Drawn0.refl _ | apply Drawn0.step)⟩
    · have d1 := decide_eq_false c1
      by_cases c2 : rung b = 0
      · rw [decide_eq_true c2] at k1
        go_enter Try.func41, Try.ntmps41
        go_wp2_with (first | (go_at_call 61; refine (isNaN_calls b hb _).mono ?_; rw [hn]; rintro e w' ⟨rfl, ⟨n1, rfl⟩⟩) | (go_at_call 63; refine (isInf_calls b hb hn _).mono ?_; rw [d1]; rintro e w' ⟨rfl, ⟨n2, rfl⟩⟩))
        go_ret
        exact ⟨rfl, by repeat (first | exact Drawn0.refl _ | apply Drawn0.step)⟩
      · rw [decide_eq_false c2] at k1
        by_cases c3 : rung b < 4503599627370496
        · rw [decide_eq_true c3] at k2
          go_enter Try.func41, Try.ntmps41
          go_wp2_with (first | (go_at_call 61; refine (isNaN_calls b hb _).mono ?_; rw [hn]; rintro e w' ⟨rfl, ⟨n1, rfl⟩⟩) | (go_at_call 63; refine (isInf_calls b hb hn _).mono ?_; rw [d1]; rintro e w' ⟨rfl, ⟨n2, rfl⟩⟩) | (go_at_call 64; refine (abs_calls b hb _).mono ?_; rintro e w' ⟨rfl, ⟨n3, rfl⟩⟩))
          go_ret
          exact ⟨rfl, by repeat (first | exact Drawn0.refl _ | apply Drawn0.step)⟩
        · rw [decide_eq_false c3] at k2
          go_enter Try.func41, Try.ntmps41
          go_wp2_with (first | (go_at_call 61; refine (isNaN_calls b hb _).mono ?_; rw [hn]; rintro e w' ⟨rfl, ⟨n1, rfl⟩⟩) | (go_at_call 63; refine (isInf_calls b hb hn _).mono ?_; rw [d1]; rintro e w' ⟨rfl, ⟨n2, rfl⟩⟩) | (go_at_call 64; refine (abs_calls b hb _).mono ?_; rintro e w' ⟨rfl, ⟨n3, rfl⟩⟩))
          go_ret
          exact ⟨rfl, by repeat (first | exact Drawn0.refl _ | apply Drawn0.step)⟩
  · go_enter Try.func41, Try.ntmps41
    go_wp2_with (go_at_call 61; refine (isNaN_calls b hb _).mono ?_; rw [hn]; rintro e w' ⟨rfl, ⟨n1, rfl⟩⟩)
    go_ret
    exact ⟨rfl, by repeat (first | exact Drawn0.refl _ | apply Drawn0.step)⟩

end Go.Proofs.Ytfkbcldeohblpaa.U
