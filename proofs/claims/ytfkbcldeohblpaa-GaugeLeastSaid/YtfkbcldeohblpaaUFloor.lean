/- math.Floor and gauge.Floor on numbers told by their bits: contracts. -/
import Derived.Test.YtfkbcldeohblpaaUFlat
import Derived.Test.YtfkbcldeohblpaaUWhole
import Derived.Laws.FloatArith
namespace Go.Proofs.Ytfkbcldeohblpaa.U
open Go.RowKit Go.Proofs.YtfkbcldeohblpaaW.PrintWords Go.Proofs.YtfkbcldeohblpaaW.PrintLast Go.Proofs.YtfkbcldeohblpaaW.PrintMore
set_option linter.unusedVariables false
set_option linter.unusedSimpArgs false
attribute [local go_sem high] binF_eql binF_neq binF_lss binF_gtr binF_geq

/-- The bits of a finite number rounded down. -/
def flBits (b : Nat) : Nat := Ieee.double.write ((Ieee.double.read b).integral .down)

theorem run79 (b : Nat) (hb : b < 18446744073709551616) (hg : rung b < 9218868437227405312) (w : World) : (callFunc 79 #[.float .f64 b]).run Try.prog w = .ok (.value (.float .f64 (flBits b))) w := by
  rw [run_callFunc_extern (e := Extern.MathFloor.toIntegral "math.archFloor" .down) Try.func79 (by rfl) (by rfl) (by kernel_rfl) (by kernel_rfl)]
  have e : Extern.MathFloor.toIntegral "math.archFloor" .down #[.float .f64 b] = pure (.float .f64 (flBits b)) := by
    have hr : FloatKind.f64.decode b = .number (minus b) (mag (rung b)) (-1074 + (place (rung b) : Nat)) := read_number hb hg
    change (match FloatKind.f64.decode b with
      | .nan s t => _
      | d => pure (Value.float .f64 (FloatKind.f64.encode (d.integral .down)))) = _
    rw [hr]
    unfold flBits
    rw [read_number hb hg]
    rfl
  rw [e]
  rfl

set_option maxHeartbeats 8000000
theorem mathFloor_calls (b : Nat) (hb : b < 18446744073709551616) (hg : rung b < 9218868437227405312) (w : World) : Calls Try.prog 72 #[.float .f64 b] w fun e w' => e = .returned (.float .f64 (flBits b)) ∧ Drawn0 w w' := by
  have h79 := run79 b hb hg
  go_enter Try.func72, Try.ntmps72
  go_wp2
  go_ret
  exact ⟨rfl, by repeat (first | exact Drawn0.refl _ | apply Drawn0.step)⟩

/-- What gauge.Floor answers. -/
def gfloor (b : Nat) : Int × Int := if rung b < 4886405595696988160 then (floorOf b, 0) else (0, 2)

theorem whole_small {g : Nat} (h : g < 4503599627370496) : whole g = 0 := by
  unfold whole
  refine Nat.div_eq_of_lt ?_
  have e : val g = g := by unfold val; rw [if_pos h]
  have : 2 ^ 52 ≤ 2 ^ unitE := Nat.pow_le_pow_right (by omega) (by unfold unitE; omega)
  have e2 : (2 : Nat) ^ 52 = 4503599627370496 := rfl
  omega

theorem left_zero : left 0 = false := by
  unfold left
  have e : val 0 = 0 := by unfold val; rw [if_pos (by omega)]
  rw [e, Nat.zero_mod]
  rfl

theorem conv_floor {b : Nat} (hb : b < 18446744073709551616) (hg : rung b < 4886405595696988160) (w : World) :
    (convert 65 2 (.float .f64 (flBits b))).run Try.prog w = .ok (.int .i64 (floorOf b)) w := by
  refine run_convert_float_int w 65 2 .f64 .i64 _ _ (by rw [Try.underlying65]; rfl) Try.underlying2 ?_
  unfold floatToIntVal
  have e : (FloatKind.f64.decode (flBits b)).toInt .zero = some (floorOf b) := (floor_told hb hg).2
  rw [e]
  have hw := whole_lt hg
  have hl : (left (rung b)).toNat ≤ 1 := by cases left (rung b) <;> decide
  have h2 : IntKind.i64.min = -9223372036854775808 := by rfl
  have h3 : IntKind.i64.max = 9223372036854775807 := by rfl
  dsimp only
  rw [if_pos]
  rw [h2, h3]
  unfold floorOf
  split <;> omega

theorem floor_calls (b : Nat) (hb : b < 18446744073709551616) (w : World) : Calls Try.prog 45 #[.float .f64 b] w fun e w' => e = .returned (.tuple #[.int .i64 (gfloor b).1, .int .i64 (gfloor b).2]) ∧ Drawn0 w w' := by
  have hk : kind b = if isNaN b = true then 0 else if rung b = 9218868437227405312 then 1 else if rung b = 0 then 2 else if rung b < 4503599627370496 then 3 else 4 := rfl
  cases hn : isNaN b
  · rw [hn, if_neg (by simp)] at hk
    have hn' := of_decide_eq_false hn
    by_cases c1 : rung b = 9218868437227405312
    · rw [if_pos c1] at hk
      have hr : gfloor b = (0, 2) := by unfold gfloor; rw [if_neg (by omega)]
      rw [hr]
      go_enter Try.func45, Try.ntmps45
      go_wp2_with (go_at_call 41; refine (kind_calls b hb _).mono ?_; rw [hk]; rintro e w' ⟨rfl, ⟨n1, rfl⟩⟩)
      go_ret2
      exact ⟨rfl, by repeat (first | exact Drawn0.refl _ | apply Drawn0.step)⟩
    · rw [if_neg c1] at hk
      by_cases c2 : rung b = 0
      · rw [if_pos c2] at hk
        have hr : gfloor b = (0, 0) := by
          unfold gfloor floorOf
          rw [if_pos (by omega), c2, whole_small (by omega), left_zero]
          simp
        rw [hr]
        go_enter Try.func45, Try.ntmps45
        go_wp2_with (go_at_call 41; refine (kind_calls b hb _).mono ?_; rw [hk]; rintro e w' ⟨rfl, ⟨n1, rfl⟩⟩)
        go_ret2
        exact ⟨rfl, by repeat (first | exact Drawn0.refl _ | apply Drawn0.step)⟩
      · rw [if_neg c2] at hk
        have hc := fun h w => conv_floor hb h w
        have k2 : fGt (rung b) 4886405595696988160 = decide (4886405595696988160 < rung b) := by
          rw [fGt_key (rung_lt b) (by omega) (by rw [isNaN_rung]; exact hn) (by rfl), key_rung, decide_eq_decide, show key 4886405595696988160 = 4886405595696988160 by rfl]
          omega
        have k3 : fEq (rung b) 4886405595696988160 = decide (4886405595696988160 = rung b) := by
          rw [fEq_key (rung_lt b) (by omega) (by rw [isNaN_rung]; exact hn) (by rfl), key_rung, decide_eq_decide, show key 4886405595696988160 = 4886405595696988160 by rfl]
          omega
        by_cases c3 : rung b < 4503599627370496
        · rw [if_pos c3] at hk
          have hc := hc (by omega)
          rw [decide_eq_false (by omega)] at k2 k3
          have hr : gfloor b = (floorOf b, 0) := by unfold gfloor; rw [if_pos (by omega)]
          rw [hr]
          have k1 : fGt b 0 = !minus b := by
            rw [fGt_key hb (by omega) hn (by rfl), show key 0 = 0 by rfl, key_abs]
            cases minus b <;> simp <;> omega
          cases hm : minus b
          · rw [hm] at k1
            have hz : floorOf b = 0 := by unfold floorOf; rw [hm, whole_small c3]; rfl
            rw [hz]
            go_enter Try.func45, Try.ntmps45
            go_wp2_with (go_at_call 41; refine (kind_calls b hb _).mono ?_; rw [hk]; rintro e w' ⟨rfl, ⟨n1, rfl⟩⟩)
            go_ret2
            exact ⟨rfl, by repeat (first | exact Drawn0.refl _ | apply Drawn0.step)⟩
          · rw [hm] at k1
            go_enter Try.func45, Try.ntmps45
            go_wp2_with (first | (go_at_call 41; refine (kind_calls b hb _).mono ?_; rw [hk]; rintro e w' ⟨rfl, ⟨n1, rfl⟩⟩) | (go_at_call 64; refine (abs_calls b hb _).mono ?_; rintro e w' ⟨rfl, ⟨n3, rfl⟩⟩) | (go_at_call 72; refine (mathFloor_calls b hb (by omega) _).mono ?_; rintro e w' ⟨rfl, ⟨n4, rfl⟩⟩))
            go_ret2
            exact ⟨rfl, by repeat (first | exact Drawn0.refl _ | apply Drawn0.step)⟩
        · rw [if_neg c3] at hk
          by_cases c4 : rung b < 4886405595696988160
          · have hc := hc c4
            rw [decide_eq_false (by omega)] at k2 k3
            have hr : gfloor b = (floorOf b, 0) := by unfold gfloor; rw [if_pos (by omega)]
            rw [hr]
            go_enter Try.func45, Try.ntmps45
            go_wp2_with (first | (go_at_call 41; refine (kind_calls b hb _).mono ?_; rw [hk]; rintro e w' ⟨rfl, ⟨n1, rfl⟩⟩) | (go_at_call 64; refine (abs_calls b hb _).mono ?_; rintro e w' ⟨rfl, ⟨n3, rfl⟩⟩) | (go_at_call 72; refine (mathFloor_calls b hb (by omega) _).mono ?_; rintro e w' ⟨rfl, ⟨n4, rfl⟩⟩))
            go_ret2
            exact ⟨rfl, by repeat (first | exact Drawn0.refl _ | apply Drawn0.step)⟩
          · clear hc
            have k4 : (fGt (rung b) 4886405595696988160 || fEq (rung b) 4886405595696988160) = true := by
              rw [k2, k3]
              rcases Nat.lt_or_ge 4886405595696988160 (rung b) with k | k
              · rw [decide_eq_true k]; rfl
              · rw [decide_eq_true (show 4886405595696988160 = rung b by omega), Bool.or_true]
            clear k2 k3
            have hr : gfloor b = (0, 2) := by unfold gfloor; rw [if_neg (by omega)]
            rw [hr]
            go_enter Try.func45, Try.ntmps45
            go_wp2_with (first | (go_at_call 41; refine (kind_calls b hb _).mono ?_; rw [hk]; rintro e w' ⟨rfl, ⟨n1, rfl⟩⟩) | (go_at_call 64; refine (abs_calls b hb _).mono ?_; rintro e w' ⟨rfl, ⟨n3, rfl⟩⟩))
            go_ret2
            exact ⟨rfl, by repeat (first | exact Drawn0.refl _ | apply Drawn0.step)⟩
  · rw [hn, if_pos rfl] at hk
    have hn' := of_decide_eq_true hn
    have hr : gfloor b = (0, 2) := by unfold gfloor; rw [if_neg (by omega)]
    rw [hr]
    go_enter Try.func45, Try.ntmps45
    go_wp2_with (go_at_call 41; refine (kind_calls b hb _).mono ?_; rw [hk]; rintro e w' ⟨rfl, ⟨n1, rfl⟩⟩)
    go_ret2
    exact ⟨rfl, by repeat (first | exact Drawn0.refl _ | apply Drawn0.step)⟩

end Go.Proofs.Ytfkbcldeohblpaa.U
