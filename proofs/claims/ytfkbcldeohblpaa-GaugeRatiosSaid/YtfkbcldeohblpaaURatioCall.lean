/- gauge.Ratio of any two whole numbers: contracts. -/
import Derived.Test.YtfkbcldeohblpaaURatioTells
namespace Go.Proofs.Ytfkbcldeohblpaa.U
open Go.RowKit Go.Proofs.YtfkbcldeohblpaaW.PrintWords Go.Proofs.YtfkbcldeohblpaaW.PrintLast Go.Proofs.YtfkbcldeohblpaaW.PrintMore
set_option linter.unusedVariables false
set_option linter.unusedSimpArgs false

set_option maxHeartbeats 8000000
theorem ratio_calls (a b : Int) (r : Nat) (h : floatBits .quo .f64 (floatOfInt .f64 a) (floatOfInt .f64 b) = some r) (w : World) :
    Calls Try.prog 49 #[.int .i64 a, .int .i64 b] w fun e w' => e = .returned (.float .f64 r) ∧ Drawn0 w w' := by
  have hq : ∀ w, (binOp .quo 65 (.float .f64 (floatOfInt .f64 a)) (.float .f64 (floatOfInt .f64 b))).run Try.prog w = .ok (.float .f64 r) w := fun w => run_float_arith w .quo 65 .f64 _ _ _ h
  have c1 : ∀ w, (convert 2 65 (.int .i64 a)).run Try.prog w = .ok (.float .f64 (floatOfInt .f64 a)) w := fun w => run_convert_int_float w 2 65 .i64 .f64 _ (by rw [Try.underlying2]; rfl) Try.underlying65
  have c2 : ∀ w, (convert 2 65 (.int .i64 b)).run Try.prog w = .ok (.float .f64 (floatOfInt .f64 b)) w := fun w => run_convert_int_float w 2 65 .i64 .f64 _ (by rw [Try.underlying2]; rfl) Try.underlying65
  clear h
  generalize floatOfInt .f64 a = F at *
  generalize floatOfInt .f64 b = G at *
  go_enter Try.func49, Try.ntmps49
  go_wp2
  go_ret
  exact ⟨rfl, by repeat (first | exact Drawn0.refl _ | apply Drawn0.step)⟩

/-- An invalid quotient: a NaN of the tape. -/
theorem run_quo_none (t : TypeId) (x y : Nat) (h : floatBits .quo .f64 x y = none) (w : World) :
    (binOp .quo t (.float .f64 x) (.float .f64 y)).run Try.prog w = .ok (.float .f64 ((Question.nanBits .f64 x y).cut (w.tape w.drawn (.nanBits .f64 x y)))) w.drew := by
  have h' : FloatKind.f64.format.div x y = none := h
  simp [binOp, Op.floatArith, h', Question.forced]

theorem ratio_nan_calls (w : World) :
    Calls Try.prog 49 #[.int .i64 0, .int .i64 0] w fun e w' => ∃ r, e = .returned (.float .f64 r) ∧ (r < 18446744073709551616 ∧ isNaN r = true) ∧ Drawn0 w w' := by
  have hq := run_quo_none 65 _ _ ratio_nan
  have c1 : ∀ w, (convert 2 65 (.int .i64 0)).run Try.prog w = .ok (.float .f64 (floatOfInt .f64 0)) w := fun w => run_convert_int_float w 2 65 .i64 .f64 _ (by rw [Try.underlying2]; rfl) Try.underlying65
  have hn := nan_cut (floatOfInt .f64 0) (floatOfInt .f64 0)
  generalize floatOfInt .f64 0 = F at *
  go_enter Try.func49, Try.ntmps49
  go_wp2
  go_ret
  exact ⟨_, rfl, hn _, by repeat (first | exact Drawn0.refl _ | apply Drawn0.step)⟩

end Go.Proofs.Ytfkbcldeohblpaa.U
