/- The document's Need (function 48): its paths (printed by wip/tools/need48.py). -/
import Derived.Test.YtfkbcldeohblpaaUWref
namespace Go.Proofs.Ytfkbcldeohblpaa.U
open Go.RowKit Go.Proofs.YtfkbcldeohblpaaW.PrintWords Go.Proofs.YtfkbcldeohblpaaW.PrintLast Go.Proofs.YtfkbcldeohblpaaW.PrintMore
set_option linter.unusedVariables false
set_option linter.unusedSimpArgs false

set_option maxHeartbeats 8000000
set_option maxRecDepth 100000
theorem need48_nan (b N : Nat) (m : Bool) (n kd M X e K : Int)
    (hk : ∀ w, Calls Try.prog 42 #[.int .u64 (b : Int)] w fun r w' => r = .returned (.int .i64 0) ∧ Drawn0 w w')
    (hm : ∀ w, Calls Try.prog 71 #[.int .u64 (b : Int)] w fun r w' => r = .returned (.bool m) ∧ Drawn0 w w') (w : World) :
    Calls Try.prog 48 #[.int .u64 (b : Int), .int .i64 n] w fun e w' => e = .returned (.tuple #[.int .i64 0, .int .i64 1]) ∧ Drawn0 w w' := by
  go_enter Try.func48, Try.ntmps48
  go_wp2_with (first | (go_at_call 42; refine (hk _).mono ?_; rintro e w' ⟨rfl, ⟨n1, rfl⟩⟩) | (go_at_call 71; refine (hm _).mono ?_; rintro e w' ⟨rfl, ⟨n2, rfl⟩⟩))
  go_ret2
  exact ⟨rfl, by repeat (first | exact Drawn0.refl _ | apply Drawn0.step)⟩

theorem need48_inf (b N : Nat) (m : Bool) (n kd M X e K : Int)
    (hk : ∀ w, Calls Try.prog 42 #[.int .u64 (b : Int)] w fun r w' => r = .returned (.int .i64 1) ∧ Drawn0 w w')
    (hm : ∀ w, Calls Try.prog 71 #[.int .u64 (b : Int)] w fun r w' => r = .returned (.bool m) ∧ Drawn0 w w') (w : World) :
    Calls Try.prog 48 #[.int .u64 (b : Int), .int .i64 n] w fun e w' => e = .returned (.tuple #[.int .i64 0, .int .i64 1]) ∧ Drawn0 w w' := by
  go_enter Try.func48, Try.ntmps48
  go_wp2_with (first | (go_at_call 42; refine (hk _).mono ?_; rintro e w' ⟨rfl, ⟨n1, rfl⟩⟩) | (go_at_call 71; refine (hm _).mono ?_; rintro e w' ⟨rfl, ⟨n2, rfl⟩⟩))
  go_ret2
  exact ⟨rfl, by repeat (first | exact Drawn0.refl _ | apply Drawn0.step)⟩

theorem need48_minus (b N : Nat) (n kd M X e K : Int)
    (hk : ∀ w, Calls Try.prog 42 #[.int .u64 (b : Int)] w fun r w' => r = .returned (.int .i64 kd) ∧ Drawn0 w w')
    (hm : ∀ w, Calls Try.prog 71 #[.int .u64 (b : Int)] w fun r w' => r = .returned (.bool true) ∧ Drawn0 w w') (k0 : (kd == 0) = false) (k1 : (kd == 1) = false) (k2 : (kd == 2) = false) (k3 : (kd != 2) = true) (w : World) :
    Calls Try.prog 48 #[.int .u64 (b : Int), .int .i64 n] w fun e w' => e = .returned (.tuple #[.int .i64 0, .int .i64 1]) ∧ Drawn0 w w' := by
  go_enter Try.func48, Try.ntmps48
  go_wp2_with (first | (go_at_call 42; refine (hk _).mono ?_; rintro e w' ⟨rfl, ⟨n1, rfl⟩⟩) | (go_at_call 71; refine (hm _).mono ?_; rintro e w' ⟨rfl, ⟨n2, rfl⟩⟩))
  go_ret2
  exact ⟨rfl, by repeat (first | exact Drawn0.refl _ | apply Drawn0.step)⟩

theorem need48_p_neg (b N : Nat) (n kd M X e K : Int)
    (hk : ∀ w, Calls Try.prog 42 #[.int .u64 (b : Int)] w fun r w' => r = .returned (.int .i64 kd) ∧ Drawn0 w w')
    (hm : ∀ w, Calls Try.prog 71 #[.int .u64 (b : Int)] w fun r w' => r = .returned (.bool false) ∧ Drawn0 w w') (k0 : (kd == 0) = false) (k1 : (kd == 1) = false) (c0 : decide (n < 0) = true) (w : World) :
    Calls Try.prog 48 #[.int .u64 (b : Int), .int .i64 n] w fun e w' => e = .returned (.tuple #[.int .i64 0, .int .i64 1]) ∧ Drawn0 w w' := by
  go_enter Try.func48, Try.ntmps48
  go_wp2_with (first | (go_at_call 42; refine (hk _).mono ?_; rintro e w' ⟨rfl, ⟨n1, rfl⟩⟩) | (go_at_call 71; refine (hm _).mono ?_; rintro e w' ⟨rfl, ⟨n2, rfl⟩⟩))
  go_ret2
  exact ⟨rfl, by repeat (first | exact Drawn0.refl _ | apply Drawn0.step)⟩

theorem need48_p_big (b N : Nat) (n kd M X e K : Int)
    (hk : ∀ w, Calls Try.prog 42 #[.int .u64 (b : Int)] w fun r w' => r = .returned (.int .i64 kd) ∧ Drawn0 w w')
    (hm : ∀ w, Calls Try.prog 71 #[.int .u64 (b : Int)] w fun r w' => r = .returned (.bool false) ∧ Drawn0 w w') (k0 : (kd == 0) = false) (k1 : (kd == 1) = false) (c0 : decide (n < 0) = false) (c1 : decide ((1000 : Int) < n) = true) (w : World) :
    Calls Try.prog 48 #[.int .u64 (b : Int), .int .i64 n] w fun e w' => e = .returned (.tuple #[.int .i64 0, .int .i64 1]) ∧ Drawn0 w w' := by
  go_enter Try.func48, Try.ntmps48
  go_wp2_with (first | (go_at_call 42; refine (hk _).mono ?_; rintro e w' ⟨rfl, ⟨n1, rfl⟩⟩) | (go_at_call 71; refine (hm _).mono ?_; rintro e w' ⟨rfl, ⟨n2, rfl⟩⟩))
  go_ret2
  exact ⟨rfl, by repeat (first | exact Drawn0.refl _ | apply Drawn0.step)⟩

theorem need48_p_zero (b N : Nat) (n kd M X e K : Int)
    (hk : ∀ w, Calls Try.prog 42 #[.int .u64 (b : Int)] w fun r w' => r = .returned (.int .i64 kd) ∧ Drawn0 w w')
    (hm : ∀ w, Calls Try.prog 71 #[.int .u64 (b : Int)] w fun r w' => r = .returned (.bool false) ∧ Drawn0 w w') (k0 : (kd == 0) = false) (k1 : (kd == 1) = false) (w : World) :
    Calls Try.prog 48 #[.int .u64 (b : Int), .int .i64 0] w fun e w' => e = .returned (.tuple #[.int .i64 0, .int .i64 0]) ∧ Drawn0 w w' := by
  go_enter Try.func48, Try.ntmps48
  go_wp2_with (first | (go_at_call 42; refine (hk _).mono ?_; rintro e w' ⟨rfl, ⟨n1, rfl⟩⟩) | (go_at_call 71; refine (hm _).mono ?_; rintro e w' ⟨rfl, ⟨n2, rfl⟩⟩))
  go_ret2
  exact ⟨rfl, by repeat (first | exact Drawn0.refl _ | apply Drawn0.step)⟩

theorem need48_p_none (b N : Nat) (n kd M X e K : Int)
    (hk : ∀ w, Calls Try.prog 42 #[.int .u64 (b : Int)] w fun r w' => r = .returned (.int .i64 kd) ∧ Drawn0 w w')
    (hm : ∀ w, Calls Try.prog 71 #[.int .u64 (b : Int)] w fun r w' => r = .returned (.bool false) ∧ Drawn0 w w') (k0 : (kd == 0) = false) (k1 : (kd == 1) = false) (c0 : decide ((N : Int) < 0) = false) (c1 : decide ((1000 : Int) < (N : Int)) = false) (c2 : ((N : Int) == 0) = false) (hp : ∀ w, Calls Try.prog 73 #[.int .u64 (b : Int)] w fun r w' => r = .returned (.tuple #[.int .u64 M, .int .i64 e]) ∧ Drawn0 w w') (hX : IntKind.u64.wrap (M * IntKind.u64.wrap (N : Int)) = X)
    (hw : ∀ w, Calls Try.prog 74 #[.int .u64 X, .int .i64 e] w fun r w' => r = .returned (.tuple #[.int .i64 K, .bool false, .bool false]) ∧ Drawn0 w w') (w : World) :
    Calls Try.prog 48 #[.int .u64 (b : Int), .int .i64 (N : Int)] w fun e w' => e = .returned (.tuple #[.int .i64 0, .int .i64 2]) ∧ Drawn0 w w' := by
  go_enter Try.func48, Try.ntmps48
  go_wp2_with (first | (go_at_call 42; refine (hk _).mono ?_; rintro e w' ⟨rfl, ⟨n1, rfl⟩⟩) | (go_at_call 71; refine (hm _).mono ?_; rintro e w' ⟨rfl, ⟨n2, rfl⟩⟩) | (go_at_call 73; refine (hp _).mono ?_; rintro e w' ⟨rfl, ⟨n3, rfl⟩⟩) | (go_at_call 74; refine (hw _).mono ?_; rintro e w' ⟨rfl, ⟨n4, rfl⟩⟩))
  go_ret2
  exact ⟨rfl, by repeat (first | exact Drawn0.refl _ | apply Drawn0.step)⟩

theorem need48_p_left (b N : Nat) (n kd M X e K : Int)
    (hk : ∀ w, Calls Try.prog 42 #[.int .u64 (b : Int)] w fun r w' => r = .returned (.int .i64 kd) ∧ Drawn0 w w')
    (hm : ∀ w, Calls Try.prog 71 #[.int .u64 (b : Int)] w fun r w' => r = .returned (.bool false) ∧ Drawn0 w w') (k0 : (kd == 0) = false) (k1 : (kd == 1) = false) (c0 : decide ((N : Int) < 0) = false) (c1 : decide ((1000 : Int) < (N : Int)) = false) (c2 : ((N : Int) == 0) = false) (hp : ∀ w, Calls Try.prog 73 #[.int .u64 (b : Int)] w fun r w' => r = .returned (.tuple #[.int .u64 M, .int .i64 e]) ∧ Drawn0 w w') (hX : IntKind.u64.wrap (M * IntKind.u64.wrap (N : Int)) = X)
    (hw : ∀ w, Calls Try.prog 74 #[.int .u64 X, .int .i64 e] w fun r w' => r = .returned (.tuple #[.int .i64 K, .bool true, .bool true]) ∧ Drawn0 w w') (w : World) :
    Calls Try.prog 48 #[.int .u64 (b : Int), .int .i64 (N : Int)] w fun e w' => e = .returned (.tuple #[.int .i64 (wrap64 (K + 1)), .int .i64 0]) ∧ Drawn0 w w' := by
  go_enter Try.func48, Try.ntmps48
  go_wp2_with (first | (go_at_call 42; refine (hk _).mono ?_; rintro e w' ⟨rfl, ⟨n1, rfl⟩⟩) | (go_at_call 71; refine (hm _).mono ?_; rintro e w' ⟨rfl, ⟨n2, rfl⟩⟩) | (go_at_call 73; refine (hp _).mono ?_; rintro e w' ⟨rfl, ⟨n3, rfl⟩⟩) | (go_at_call 74; refine (hw _).mono ?_; rintro e w' ⟨rfl, ⟨n4, rfl⟩⟩))
  go_ret2
  exact ⟨rfl, by repeat (first | exact Drawn0.refl _ | apply Drawn0.step)⟩

theorem need48_p_even (b N : Nat) (n kd M X e K : Int)
    (hk : ∀ w, Calls Try.prog 42 #[.int .u64 (b : Int)] w fun r w' => r = .returned (.int .i64 kd) ∧ Drawn0 w w')
    (hm : ∀ w, Calls Try.prog 71 #[.int .u64 (b : Int)] w fun r w' => r = .returned (.bool false) ∧ Drawn0 w w') (k0 : (kd == 0) = false) (k1 : (kd == 1) = false) (c0 : decide ((N : Int) < 0) = false) (c1 : decide ((1000 : Int) < (N : Int)) = false) (c2 : ((N : Int) == 0) = false) (hp : ∀ w, Calls Try.prog 73 #[.int .u64 (b : Int)] w fun r w' => r = .returned (.tuple #[.int .u64 M, .int .i64 e]) ∧ Drawn0 w w') (hX : IntKind.u64.wrap (M * IntKind.u64.wrap (N : Int)) = X)
    (hw : ∀ w, Calls Try.prog 74 #[.int .u64 X, .int .i64 e] w fun r w' => r = .returned (.tuple #[.int .i64 K, .bool false, .bool true]) ∧ Drawn0 w w') (w : World) :
    Calls Try.prog 48 #[.int .u64 (b : Int), .int .i64 (N : Int)] w fun e w' => e = .returned (.tuple #[.int .i64 K, .int .i64 0]) ∧ Drawn0 w w' := by
  go_enter Try.func48, Try.ntmps48
  go_wp2_with (first | (go_at_call 42; refine (hk _).mono ?_; rintro e w' ⟨rfl, ⟨n1, rfl⟩⟩) | (go_at_call 71; refine (hm _).mono ?_; rintro e w' ⟨rfl, ⟨n2, rfl⟩⟩) | (go_at_call 73; refine (hp _).mono ?_; rintro e w' ⟨rfl, ⟨n3, rfl⟩⟩) | (go_at_call 74; refine (hw _).mono ?_; rintro e w' ⟨rfl, ⟨n4, rfl⟩⟩))
  go_ret2
  exact ⟨rfl, by repeat (first | exact Drawn0.refl _ | apply Drawn0.step)⟩

theorem need48_z_neg (b N : Nat) (n kd M X e K : Int)
    (hk : ∀ w, Calls Try.prog 42 #[.int .u64 (b : Int)] w fun r w' => r = .returned (.int .i64 2) ∧ Drawn0 w w')
    (hm : ∀ w, Calls Try.prog 71 #[.int .u64 (b : Int)] w fun r w' => r = .returned (.bool true) ∧ Drawn0 w w') (c0 : decide (n < 0) = true) (w : World) :
    Calls Try.prog 48 #[.int .u64 (b : Int), .int .i64 n] w fun e w' => e = .returned (.tuple #[.int .i64 0, .int .i64 1]) ∧ Drawn0 w w' := by
  go_enter Try.func48, Try.ntmps48
  go_wp2_with (first | (go_at_call 42; refine (hk _).mono ?_; rintro e w' ⟨rfl, ⟨n1, rfl⟩⟩) | (go_at_call 71; refine (hm _).mono ?_; rintro e w' ⟨rfl, ⟨n2, rfl⟩⟩))
  go_ret2
  exact ⟨rfl, by repeat (first | exact Drawn0.refl _ | apply Drawn0.step)⟩

theorem need48_z_big (b N : Nat) (n kd M X e K : Int)
    (hk : ∀ w, Calls Try.prog 42 #[.int .u64 (b : Int)] w fun r w' => r = .returned (.int .i64 2) ∧ Drawn0 w w')
    (hm : ∀ w, Calls Try.prog 71 #[.int .u64 (b : Int)] w fun r w' => r = .returned (.bool true) ∧ Drawn0 w w') (c0 : decide (n < 0) = false) (c1 : decide ((1000 : Int) < n) = true) (w : World) :
    Calls Try.prog 48 #[.int .u64 (b : Int), .int .i64 n] w fun e w' => e = .returned (.tuple #[.int .i64 0, .int .i64 1]) ∧ Drawn0 w w' := by
  go_enter Try.func48, Try.ntmps48
  go_wp2_with (first | (go_at_call 42; refine (hk _).mono ?_; rintro e w' ⟨rfl, ⟨n1, rfl⟩⟩) | (go_at_call 71; refine (hm _).mono ?_; rintro e w' ⟨rfl, ⟨n2, rfl⟩⟩))
  go_ret2
  exact ⟨rfl, by repeat (first | exact Drawn0.refl _ | apply Drawn0.step)⟩

theorem need48_z_zero (b N : Nat) (n kd M X e K : Int)
    (hk : ∀ w, Calls Try.prog 42 #[.int .u64 (b : Int)] w fun r w' => r = .returned (.int .i64 2) ∧ Drawn0 w w')
    (hm : ∀ w, Calls Try.prog 71 #[.int .u64 (b : Int)] w fun r w' => r = .returned (.bool true) ∧ Drawn0 w w') (w : World) :
    Calls Try.prog 48 #[.int .u64 (b : Int), .int .i64 0] w fun e w' => e = .returned (.tuple #[.int .i64 0, .int .i64 0]) ∧ Drawn0 w w' := by
  go_enter Try.func48, Try.ntmps48
  go_wp2_with (first | (go_at_call 42; refine (hk _).mono ?_; rintro e w' ⟨rfl, ⟨n1, rfl⟩⟩) | (go_at_call 71; refine (hm _).mono ?_; rintro e w' ⟨rfl, ⟨n2, rfl⟩⟩))
  go_ret2
  exact ⟨rfl, by repeat (first | exact Drawn0.refl _ | apply Drawn0.step)⟩

theorem need48_z_none (b N : Nat) (n kd M X e K : Int)
    (hk : ∀ w, Calls Try.prog 42 #[.int .u64 (b : Int)] w fun r w' => r = .returned (.int .i64 2) ∧ Drawn0 w w')
    (hm : ∀ w, Calls Try.prog 71 #[.int .u64 (b : Int)] w fun r w' => r = .returned (.bool true) ∧ Drawn0 w w') (c0 : decide ((N : Int) < 0) = false) (c1 : decide ((1000 : Int) < (N : Int)) = false) (c2 : ((N : Int) == 0) = false) (hp : ∀ w, Calls Try.prog 73 #[.int .u64 (b : Int)] w fun r w' => r = .returned (.tuple #[.int .u64 M, .int .i64 e]) ∧ Drawn0 w w') (hX : IntKind.u64.wrap (M * IntKind.u64.wrap (N : Int)) = X)
    (hw : ∀ w, Calls Try.prog 74 #[.int .u64 X, .int .i64 e] w fun r w' => r = .returned (.tuple #[.int .i64 K, .bool false, .bool false]) ∧ Drawn0 w w') (w : World) :
    Calls Try.prog 48 #[.int .u64 (b : Int), .int .i64 (N : Int)] w fun e w' => e = .returned (.tuple #[.int .i64 0, .int .i64 2]) ∧ Drawn0 w w' := by
  go_enter Try.func48, Try.ntmps48
  go_wp2_with (first | (go_at_call 42; refine (hk _).mono ?_; rintro e w' ⟨rfl, ⟨n1, rfl⟩⟩) | (go_at_call 71; refine (hm _).mono ?_; rintro e w' ⟨rfl, ⟨n2, rfl⟩⟩) | (go_at_call 73; refine (hp _).mono ?_; rintro e w' ⟨rfl, ⟨n3, rfl⟩⟩) | (go_at_call 74; refine (hw _).mono ?_; rintro e w' ⟨rfl, ⟨n4, rfl⟩⟩))
  go_ret2
  exact ⟨rfl, by repeat (first | exact Drawn0.refl _ | apply Drawn0.step)⟩

theorem need48_z_left (b N : Nat) (n kd M X e K : Int)
    (hk : ∀ w, Calls Try.prog 42 #[.int .u64 (b : Int)] w fun r w' => r = .returned (.int .i64 2) ∧ Drawn0 w w')
    (hm : ∀ w, Calls Try.prog 71 #[.int .u64 (b : Int)] w fun r w' => r = .returned (.bool true) ∧ Drawn0 w w') (c0 : decide ((N : Int) < 0) = false) (c1 : decide ((1000 : Int) < (N : Int)) = false) (c2 : ((N : Int) == 0) = false) (hp : ∀ w, Calls Try.prog 73 #[.int .u64 (b : Int)] w fun r w' => r = .returned (.tuple #[.int .u64 M, .int .i64 e]) ∧ Drawn0 w w') (hX : IntKind.u64.wrap (M * IntKind.u64.wrap (N : Int)) = X)
    (hw : ∀ w, Calls Try.prog 74 #[.int .u64 X, .int .i64 e] w fun r w' => r = .returned (.tuple #[.int .i64 K, .bool true, .bool true]) ∧ Drawn0 w w') (w : World) :
    Calls Try.prog 48 #[.int .u64 (b : Int), .int .i64 (N : Int)] w fun e w' => e = .returned (.tuple #[.int .i64 (wrap64 (K + 1)), .int .i64 0]) ∧ Drawn0 w w' := by
  go_enter Try.func48, Try.ntmps48
  go_wp2_with (first | (go_at_call 42; refine (hk _).mono ?_; rintro e w' ⟨rfl, ⟨n1, rfl⟩⟩) | (go_at_call 71; refine (hm _).mono ?_; rintro e w' ⟨rfl, ⟨n2, rfl⟩⟩) | (go_at_call 73; refine (hp _).mono ?_; rintro e w' ⟨rfl, ⟨n3, rfl⟩⟩) | (go_at_call 74; refine (hw _).mono ?_; rintro e w' ⟨rfl, ⟨n4, rfl⟩⟩))
  go_ret2
  exact ⟨rfl, by repeat (first | exact Drawn0.refl _ | apply Drawn0.step)⟩

theorem need48_z_even (b N : Nat) (n kd M X e K : Int)
    (hk : ∀ w, Calls Try.prog 42 #[.int .u64 (b : Int)] w fun r w' => r = .returned (.int .i64 2) ∧ Drawn0 w w')
    (hm : ∀ w, Calls Try.prog 71 #[.int .u64 (b : Int)] w fun r w' => r = .returned (.bool true) ∧ Drawn0 w w') (c0 : decide ((N : Int) < 0) = false) (c1 : decide ((1000 : Int) < (N : Int)) = false) (c2 : ((N : Int) == 0) = false) (hp : ∀ w, Calls Try.prog 73 #[.int .u64 (b : Int)] w fun r w' => r = .returned (.tuple #[.int .u64 M, .int .i64 e]) ∧ Drawn0 w w') (hX : IntKind.u64.wrap (M * IntKind.u64.wrap (N : Int)) = X)
    (hw : ∀ w, Calls Try.prog 74 #[.int .u64 X, .int .i64 e] w fun r w' => r = .returned (.tuple #[.int .i64 K, .bool false, .bool true]) ∧ Drawn0 w w') (w : World) :
    Calls Try.prog 48 #[.int .u64 (b : Int), .int .i64 (N : Int)] w fun e w' => e = .returned (.tuple #[.int .i64 K, .int .i64 0]) ∧ Drawn0 w w' := by
  go_enter Try.func48, Try.ntmps48
  go_wp2_with (first | (go_at_call 42; refine (hk _).mono ?_; rintro e w' ⟨rfl, ⟨n1, rfl⟩⟩) | (go_at_call 71; refine (hm _).mono ?_; rintro e w' ⟨rfl, ⟨n2, rfl⟩⟩) | (go_at_call 73; refine (hp _).mono ?_; rintro e w' ⟨rfl, ⟨n3, rfl⟩⟩) | (go_at_call 74; refine (hw _).mono ?_; rintro e w' ⟨rfl, ⟨n4, rfl⟩⟩))
  go_ret2
  exact ⟨rfl, by repeat (first | exact Drawn0.refl _ | apply Drawn0.step)⟩

end Go.Proofs.Ytfkbcldeohblpaa.U
