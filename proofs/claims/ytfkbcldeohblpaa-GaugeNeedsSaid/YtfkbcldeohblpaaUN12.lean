/- GaugeNeeds (function 12): its paths (printed by wip/tools/needs.py). -/
import Derived.Test.YtfkbcldeohblpaaUNeeds
namespace Go.Proofs.Ytfkbcldeohblpaa.U
open Go.RowKit Go.Proofs.YtfkbcldeohblpaaW.PrintWords Go.Proofs.YtfkbcldeohblpaaW.PrintLast Go.Proofs.YtfkbcldeohblpaaW.PrintMore
set_option linter.unusedVariables false
set_option linter.unusedSimpArgs false

set_option maxHeartbeats 8000000
set_option maxRecDepth 100000
theorem needs_v1_s1 (a R : Nat) (k n one two low e f g m : Int)
    (fa : ∀ w, Calls Try.prog 37 #[.int .u64 (a : Int)] w fun r w' => r = .returned (.float .f64 a) ∧ Drawn0 w w')
    (h1 : ∀ w, Calls Try.prog 47 #[.float .f64 a, .int .i64 1] w fun r w' => r = .returned (.tuple #[.int .i64 one, .int .i64 e]) ∧ Drawn0 w w')
    (h2 : ∀ w, Calls Try.prog 47 #[.float .f64 a, .int .i64 2] w fun r w' => r = .returned (.tuple #[.int .i64 two, .int .i64 f]) ∧ Drawn0 w w')
    (h3 : ∀ w, Calls Try.prog 45 #[.float .f64 a] w fun r w' => r = .returned (.tuple #[.int .i64 low, .int .i64 g]) ∧ Drawn0 w w') (d0 : (e == 0) = false) (s0 : decide (k < 0) = true) (w : World) :
    Calls Try.prog 12 #[.int .u64 (a : Int), .int .i64 k, .int .i64 n] w fun e w' => e = .returned (.bool true) ∧ Below w.heap.size w w' := by
  have hB := Below.refl w.heap.size w
  go_enter Try.func12, Try.ntmps12
  go_wp2_with (first | (go_at_call 37; refine (fa _).mono ?_; rintro e w' ⟨rfl, ⟨n1, rfl⟩⟩) | (go_at_call 47; (first | with_reducible refine (h1 _).mono ?_ | with_reducible refine (h2 _).mono ?_); rintro e w' ⟨rfl, ⟨n2, rfl⟩⟩) | (go_at_call 45; refine (h3 _).mono ?_; rintro e w' ⟨rfl, ⟨n3, rfl⟩⟩) | (go_at_call 38; refine (alive_calls _).mono ?_; rintro e w1 ⟨rfl, hb1⟩))
  have b1 := below_then (below_dn hB _) hb1
  go_ret
  exact ⟨rfl, by first | exact b1 | exact below_dn b1 _⟩

theorem needs_v1_s2 (a R : Nat) (k n one two low e f g m : Int)
    (fa : ∀ w, Calls Try.prog 37 #[.int .u64 (a : Int)] w fun r w' => r = .returned (.float .f64 a) ∧ Drawn0 w w')
    (h1 : ∀ w, Calls Try.prog 47 #[.float .f64 a, .int .i64 1] w fun r w' => r = .returned (.tuple #[.int .i64 one, .int .i64 e]) ∧ Drawn0 w w')
    (h2 : ∀ w, Calls Try.prog 47 #[.float .f64 a, .int .i64 2] w fun r w' => r = .returned (.tuple #[.int .i64 two, .int .i64 f]) ∧ Drawn0 w w')
    (h3 : ∀ w, Calls Try.prog 45 #[.float .f64 a] w fun r w' => r = .returned (.tuple #[.int .i64 low, .int .i64 g]) ∧ Drawn0 w w') (d0 : (e == 0) = false) (s0 : decide (k < 0) = false) (s1 : decide (k > 1099511627776) = true) (w : World) :
    Calls Try.prog 12 #[.int .u64 (a : Int), .int .i64 k, .int .i64 n] w fun e w' => e = .returned (.bool true) ∧ Below w.heap.size w w' := by
  have hB := Below.refl w.heap.size w
  go_enter Try.func12, Try.ntmps12
  go_wp2_with (first | (go_at_call 37; refine (fa _).mono ?_; rintro e w' ⟨rfl, ⟨n1, rfl⟩⟩) | (go_at_call 47; (first | with_reducible refine (h1 _).mono ?_ | with_reducible refine (h2 _).mono ?_); rintro e w' ⟨rfl, ⟨n2, rfl⟩⟩) | (go_at_call 45; refine (h3 _).mono ?_; rintro e w' ⟨rfl, ⟨n3, rfl⟩⟩) | (go_at_call 38; refine (alive_calls _).mono ?_; rintro e w1 ⟨rfl, hb1⟩))
  have b1 := below_then (below_dn hB _) hb1
  go_ret
  exact ⟨rfl, by first | exact b1 | exact below_dn b1 _⟩

theorem needs_v1_s3 (a R : Nat) (k n one two low e f g m : Int)
    (fa : ∀ w, Calls Try.prog 37 #[.int .u64 (a : Int)] w fun r w' => r = .returned (.float .f64 a) ∧ Drawn0 w w')
    (h1 : ∀ w, Calls Try.prog 47 #[.float .f64 a, .int .i64 1] w fun r w' => r = .returned (.tuple #[.int .i64 one, .int .i64 e]) ∧ Drawn0 w w')
    (h2 : ∀ w, Calls Try.prog 47 #[.float .f64 a, .int .i64 2] w fun r w' => r = .returned (.tuple #[.int .i64 two, .int .i64 f]) ∧ Drawn0 w w')
    (h3 : ∀ w, Calls Try.prog 45 #[.float .f64 a] w fun r w' => r = .returned (.tuple #[.int .i64 low, .int .i64 g]) ∧ Drawn0 w w') (d0 : (e == 0) = false) (s0 : decide (k < 0) = false) (s1 : decide (k > 1099511627776) = false) (s2 : decide (n < 0) = true) (w : World) :
    Calls Try.prog 12 #[.int .u64 (a : Int), .int .i64 k, .int .i64 n] w fun e w' => e = .returned (.bool true) ∧ Below w.heap.size w w' := by
  have hB := Below.refl w.heap.size w
  go_enter Try.func12, Try.ntmps12
  go_wp2_with (first | (go_at_call 37; refine (fa _).mono ?_; rintro e w' ⟨rfl, ⟨n1, rfl⟩⟩) | (go_at_call 47; (first | with_reducible refine (h1 _).mono ?_ | with_reducible refine (h2 _).mono ?_); rintro e w' ⟨rfl, ⟨n2, rfl⟩⟩) | (go_at_call 45; refine (h3 _).mono ?_; rintro e w' ⟨rfl, ⟨n3, rfl⟩⟩) | (go_at_call 38; refine (alive_calls _).mono ?_; rintro e w1 ⟨rfl, hb1⟩))
  have b1 := below_then (below_dn hB _) hb1
  go_ret
  exact ⟨rfl, by first | exact b1 | exact below_dn b1 _⟩

theorem needs_v1_s4 (a R : Nat) (k n one two low e f g m : Int)
    (fa : ∀ w, Calls Try.prog 37 #[.int .u64 (a : Int)] w fun r w' => r = .returned (.float .f64 a) ∧ Drawn0 w w')
    (h1 : ∀ w, Calls Try.prog 47 #[.float .f64 a, .int .i64 1] w fun r w' => r = .returned (.tuple #[.int .i64 one, .int .i64 e]) ∧ Drawn0 w w')
    (h2 : ∀ w, Calls Try.prog 47 #[.float .f64 a, .int .i64 2] w fun r w' => r = .returned (.tuple #[.int .i64 two, .int .i64 f]) ∧ Drawn0 w w')
    (h3 : ∀ w, Calls Try.prog 45 #[.float .f64 a] w fun r w' => r = .returned (.tuple #[.int .i64 low, .int .i64 g]) ∧ Drawn0 w w') (d0 : (e == 0) = false) (s0 : decide (k < 0) = false) (s1 : decide (k > 1099511627776) = false) (s2 : decide (n < 0) = false) (s3 : decide (n > 1000) = true) (w : World) :
    Calls Try.prog 12 #[.int .u64 (a : Int), .int .i64 k, .int .i64 n] w fun e w' => e = .returned (.bool true) ∧ Below w.heap.size w w' := by
  have hB := Below.refl w.heap.size w
  go_enter Try.func12, Try.ntmps12
  go_wp2_with (first | (go_at_call 37; refine (fa _).mono ?_; rintro e w' ⟨rfl, ⟨n1, rfl⟩⟩) | (go_at_call 47; (first | with_reducible refine (h1 _).mono ?_ | with_reducible refine (h2 _).mono ?_); rintro e w' ⟨rfl, ⟨n2, rfl⟩⟩) | (go_at_call 45; refine (h3 _).mono ?_; rintro e w' ⟨rfl, ⟨n3, rfl⟩⟩) | (go_at_call 38; refine (alive_calls _).mono ?_; rintro e w1 ⟨rfl, hb1⟩))
  have b1 := below_then (below_dn hB _) hb1
  go_ret
  exact ⟨rfl, by first | exact b1 | exact below_dn b1 _⟩

theorem needs_v1_s5 (a R : Nat) (k n one two low e f g m : Int)
    (fa : ∀ w, Calls Try.prog 37 #[.int .u64 (a : Int)] w fun r w' => r = .returned (.float .f64 a) ∧ Drawn0 w w')
    (h1 : ∀ w, Calls Try.prog 47 #[.float .f64 a, .int .i64 1] w fun r w' => r = .returned (.tuple #[.int .i64 one, .int .i64 e]) ∧ Drawn0 w w')
    (h2 : ∀ w, Calls Try.prog 47 #[.float .f64 a, .int .i64 2] w fun r w' => r = .returned (.tuple #[.int .i64 two, .int .i64 f]) ∧ Drawn0 w w')
    (h3 : ∀ w, Calls Try.prog 45 #[.float .f64 a] w fun r w' => r = .returned (.tuple #[.int .i64 low, .int .i64 g]) ∧ Drawn0 w w') (d0 : (e == 0) = false) (s0 : decide (k < 0) = false) (s1 : decide (k > 1099511627776) = false) (s2 : decide (n < 0) = false) (s3 : decide (n > 1000) = false) (hr : ∀ w, Calls Try.prog 49 #[.int .i64 k, .int .i64 1] w fun r w' => r = .returned (.float .f64 R) ∧ Drawn0 w w') (hn : ∀ w, Calls Try.prog 47 #[.float .f64 R, .int .i64 n] w fun r w' => r = .returned (.tuple #[.int .i64 m, .int .i64 0]) ∧ Drawn0 w w') (hm : wrap64 (k * n) = m) (w : World) :
    Calls Try.prog 12 #[.int .u64 (a : Int), .int .i64 k, .int .i64 n] w fun e w' => e = .returned (.bool true) ∧ Below w.heap.size w w' := by
  have hB := Below.refl w.heap.size w
  go_enter Try.func12, Try.ntmps12
  go_wp2_with (first | (go_at_call 37; refine (fa _).mono ?_; rintro e w' ⟨rfl, ⟨n1, rfl⟩⟩) | (go_at_call 47; (first | with_reducible refine (h1 _).mono ?_ | with_reducible refine (h2 _).mono ?_ | with_reducible refine (hn _).mono ?_); rintro e w' ⟨rfl, ⟨n2, rfl⟩⟩) | (go_at_call 45; refine (h3 _).mono ?_; rintro e w' ⟨rfl, ⟨n3, rfl⟩⟩) | (go_at_call 49; refine (hr _).mono ?_; rintro e w' ⟨rfl, ⟨n4, rfl⟩⟩) | (go_at_call 38; refine (alive_calls _).mono ?_; rintro e w1 ⟨rfl, hb1⟩))
  have b1 := below_then (below_dn hB _) hb1
  go_ret
  exact ⟨rfl, by first | exact b1 | exact below_dn b1 _⟩

theorem needs_v2_s1 (a R : Nat) (k n one two low e f g m : Int)
    (fa : ∀ w, Calls Try.prog 37 #[.int .u64 (a : Int)] w fun r w' => r = .returned (.float .f64 a) ∧ Drawn0 w w')
    (h1 : ∀ w, Calls Try.prog 47 #[.float .f64 a, .int .i64 1] w fun r w' => r = .returned (.tuple #[.int .i64 one, .int .i64 0]) ∧ Drawn0 w w')
    (h2 : ∀ w, Calls Try.prog 47 #[.float .f64 a, .int .i64 2] w fun r w' => r = .returned (.tuple #[.int .i64 two, .int .i64 f]) ∧ Drawn0 w w')
    (h3 : ∀ w, Calls Try.prog 45 #[.float .f64 a] w fun r w' => r = .returned (.tuple #[.int .i64 low, .int .i64 0]) ∧ Drawn0 w w') (d0 : (one != low) = false) (d1 : (f == 0) = false) (s0 : decide (k < 0) = true) (w : World) :
    Calls Try.prog 12 #[.int .u64 (a : Int), .int .i64 k, .int .i64 n] w fun e w' => e = .returned (.bool true) ∧ Below w.heap.size w w' := by
  have hB := Below.refl w.heap.size w
  go_enter Try.func12, Try.ntmps12
  go_wp2_with (first | (go_at_call 37; refine (fa _).mono ?_; rintro e w' ⟨rfl, ⟨n1, rfl⟩⟩) | (go_at_call 47; (first | with_reducible refine (h1 _).mono ?_ | with_reducible refine (h2 _).mono ?_); rintro e w' ⟨rfl, ⟨n2, rfl⟩⟩) | (go_at_call 45; refine (h3 _).mono ?_; rintro e w' ⟨rfl, ⟨n3, rfl⟩⟩) | (go_at_call 38; refine (alive_calls _).mono ?_; rintro e w1 ⟨rfl, hb1⟩))
  have b1 := below_then (below_dn hB _) hb1
  go_ret
  exact ⟨rfl, by first | exact b1 | exact below_dn b1 _⟩

theorem needs_v2_s2 (a R : Nat) (k n one two low e f g m : Int)
    (fa : ∀ w, Calls Try.prog 37 #[.int .u64 (a : Int)] w fun r w' => r = .returned (.float .f64 a) ∧ Drawn0 w w')
    (h1 : ∀ w, Calls Try.prog 47 #[.float .f64 a, .int .i64 1] w fun r w' => r = .returned (.tuple #[.int .i64 one, .int .i64 0]) ∧ Drawn0 w w')
    (h2 : ∀ w, Calls Try.prog 47 #[.float .f64 a, .int .i64 2] w fun r w' => r = .returned (.tuple #[.int .i64 two, .int .i64 f]) ∧ Drawn0 w w')
    (h3 : ∀ w, Calls Try.prog 45 #[.float .f64 a] w fun r w' => r = .returned (.tuple #[.int .i64 low, .int .i64 0]) ∧ Drawn0 w w') (d0 : (one != low) = false) (d1 : (f == 0) = false) (s0 : decide (k < 0) = false) (s1 : decide (k > 1099511627776) = true) (w : World) :
    Calls Try.prog 12 #[.int .u64 (a : Int), .int .i64 k, .int .i64 n] w fun e w' => e = .returned (.bool true) ∧ Below w.heap.size w w' := by
  have hB := Below.refl w.heap.size w
  go_enter Try.func12, Try.ntmps12
  go_wp2_with (first | (go_at_call 37; refine (fa _).mono ?_; rintro e w' ⟨rfl, ⟨n1, rfl⟩⟩) | (go_at_call 47; (first | with_reducible refine (h1 _).mono ?_ | with_reducible refine (h2 _).mono ?_); rintro e w' ⟨rfl, ⟨n2, rfl⟩⟩) | (go_at_call 45; refine (h3 _).mono ?_; rintro e w' ⟨rfl, ⟨n3, rfl⟩⟩) | (go_at_call 38; refine (alive_calls _).mono ?_; rintro e w1 ⟨rfl, hb1⟩))
  have b1 := below_then (below_dn hB _) hb1
  go_ret
  exact ⟨rfl, by first | exact b1 | exact below_dn b1 _⟩

theorem needs_v2_s3 (a R : Nat) (k n one two low e f g m : Int)
    (fa : ∀ w, Calls Try.prog 37 #[.int .u64 (a : Int)] w fun r w' => r = .returned (.float .f64 a) ∧ Drawn0 w w')
    (h1 : ∀ w, Calls Try.prog 47 #[.float .f64 a, .int .i64 1] w fun r w' => r = .returned (.tuple #[.int .i64 one, .int .i64 0]) ∧ Drawn0 w w')
    (h2 : ∀ w, Calls Try.prog 47 #[.float .f64 a, .int .i64 2] w fun r w' => r = .returned (.tuple #[.int .i64 two, .int .i64 f]) ∧ Drawn0 w w')
    (h3 : ∀ w, Calls Try.prog 45 #[.float .f64 a] w fun r w' => r = .returned (.tuple #[.int .i64 low, .int .i64 0]) ∧ Drawn0 w w') (d0 : (one != low) = false) (d1 : (f == 0) = false) (s0 : decide (k < 0) = false) (s1 : decide (k > 1099511627776) = false) (s2 : decide (n < 0) = true) (w : World) :
    Calls Try.prog 12 #[.int .u64 (a : Int), .int .i64 k, .int .i64 n] w fun e w' => e = .returned (.bool true) ∧ Below w.heap.size w w' := by
  have hB := Below.refl w.heap.size w
  go_enter Try.func12, Try.ntmps12
  go_wp2_with (first | (go_at_call 37; refine (fa _).mono ?_; rintro e w' ⟨rfl, ⟨n1, rfl⟩⟩) | (go_at_call 47; (first | with_reducible refine (h1 _).mono ?_ | with_reducible refine (h2 _).mono ?_); rintro e w' ⟨rfl, ⟨n2, rfl⟩⟩) | (go_at_call 45; refine (h3 _).mono ?_; rintro e w' ⟨rfl, ⟨n3, rfl⟩⟩) | (go_at_call 38; refine (alive_calls _).mono ?_; rintro e w1 ⟨rfl, hb1⟩))
  have b1 := below_then (below_dn hB _) hb1
  go_ret
  exact ⟨rfl, by first | exact b1 | exact below_dn b1 _⟩

theorem needs_v2_s4 (a R : Nat) (k n one two low e f g m : Int)
    (fa : ∀ w, Calls Try.prog 37 #[.int .u64 (a : Int)] w fun r w' => r = .returned (.float .f64 a) ∧ Drawn0 w w')
    (h1 : ∀ w, Calls Try.prog 47 #[.float .f64 a, .int .i64 1] w fun r w' => r = .returned (.tuple #[.int .i64 one, .int .i64 0]) ∧ Drawn0 w w')
    (h2 : ∀ w, Calls Try.prog 47 #[.float .f64 a, .int .i64 2] w fun r w' => r = .returned (.tuple #[.int .i64 two, .int .i64 f]) ∧ Drawn0 w w')
    (h3 : ∀ w, Calls Try.prog 45 #[.float .f64 a] w fun r w' => r = .returned (.tuple #[.int .i64 low, .int .i64 0]) ∧ Drawn0 w w') (d0 : (one != low) = false) (d1 : (f == 0) = false) (s0 : decide (k < 0) = false) (s1 : decide (k > 1099511627776) = false) (s2 : decide (n < 0) = false) (s3 : decide (n > 1000) = true) (w : World) :
    Calls Try.prog 12 #[.int .u64 (a : Int), .int .i64 k, .int .i64 n] w fun e w' => e = .returned (.bool true) ∧ Below w.heap.size w w' := by
  have hB := Below.refl w.heap.size w
  go_enter Try.func12, Try.ntmps12
  go_wp2_with (first | (go_at_call 37; refine (fa _).mono ?_; rintro e w' ⟨rfl, ⟨n1, rfl⟩⟩) | (go_at_call 47; (first | with_reducible refine (h1 _).mono ?_ | with_reducible refine (h2 _).mono ?_); rintro e w' ⟨rfl, ⟨n2, rfl⟩⟩) | (go_at_call 45; refine (h3 _).mono ?_; rintro e w' ⟨rfl, ⟨n3, rfl⟩⟩) | (go_at_call 38; refine (alive_calls _).mono ?_; rintro e w1 ⟨rfl, hb1⟩))
  have b1 := below_then (below_dn hB _) hb1
  go_ret
  exact ⟨rfl, by first | exact b1 | exact below_dn b1 _⟩

theorem needs_v2_s5 (a R : Nat) (k n one two low e f g m : Int)
    (fa : ∀ w, Calls Try.prog 37 #[.int .u64 (a : Int)] w fun r w' => r = .returned (.float .f64 a) ∧ Drawn0 w w')
    (h1 : ∀ w, Calls Try.prog 47 #[.float .f64 a, .int .i64 1] w fun r w' => r = .returned (.tuple #[.int .i64 one, .int .i64 0]) ∧ Drawn0 w w')
    (h2 : ∀ w, Calls Try.prog 47 #[.float .f64 a, .int .i64 2] w fun r w' => r = .returned (.tuple #[.int .i64 two, .int .i64 f]) ∧ Drawn0 w w')
    (h3 : ∀ w, Calls Try.prog 45 #[.float .f64 a] w fun r w' => r = .returned (.tuple #[.int .i64 low, .int .i64 0]) ∧ Drawn0 w w') (d0 : (one != low) = false) (d1 : (f == 0) = false) (s0 : decide (k < 0) = false) (s1 : decide (k > 1099511627776) = false) (s2 : decide (n < 0) = false) (s3 : decide (n > 1000) = false) (hr : ∀ w, Calls Try.prog 49 #[.int .i64 k, .int .i64 1] w fun r w' => r = .returned (.float .f64 R) ∧ Drawn0 w w') (hn : ∀ w, Calls Try.prog 47 #[.float .f64 R, .int .i64 n] w fun r w' => r = .returned (.tuple #[.int .i64 m, .int .i64 0]) ∧ Drawn0 w w') (hm : wrap64 (k * n) = m) (w : World) :
    Calls Try.prog 12 #[.int .u64 (a : Int), .int .i64 k, .int .i64 n] w fun e w' => e = .returned (.bool true) ∧ Below w.heap.size w w' := by
  have hB := Below.refl w.heap.size w
  go_enter Try.func12, Try.ntmps12
  go_wp2_with (first | (go_at_call 37; refine (fa _).mono ?_; rintro e w' ⟨rfl, ⟨n1, rfl⟩⟩) | (go_at_call 47; (first | with_reducible refine (h1 _).mono ?_ | with_reducible refine (h2 _).mono ?_ | with_reducible refine (hn _).mono ?_); rintro e w' ⟨rfl, ⟨n2, rfl⟩⟩) | (go_at_call 45; refine (h3 _).mono ?_; rintro e w' ⟨rfl, ⟨n3, rfl⟩⟩) | (go_at_call 49; refine (hr _).mono ?_; rintro e w' ⟨rfl, ⟨n4, rfl⟩⟩) | (go_at_call 38; refine (alive_calls _).mono ?_; rintro e w1 ⟨rfl, hb1⟩))
  have b1 := below_then (below_dn hB _) hb1
  go_ret
  exact ⟨rfl, by first | exact b1 | exact below_dn b1 _⟩

theorem needs_v3_s1 (a R : Nat) (k n one two low e f g m : Int)
    (fa : ∀ w, Calls Try.prog 37 #[.int .u64 (a : Int)] w fun r w' => r = .returned (.float .f64 a) ∧ Drawn0 w w')
    (h1 : ∀ w, Calls Try.prog 47 #[.float .f64 a, .int .i64 1] w fun r w' => r = .returned (.tuple #[.int .i64 one, .int .i64 0]) ∧ Drawn0 w w')
    (h2 : ∀ w, Calls Try.prog 47 #[.float .f64 a, .int .i64 2] w fun r w' => r = .returned (.tuple #[.int .i64 two, .int .i64 0]) ∧ Drawn0 w w')
    (h3 : ∀ w, Calls Try.prog 45 #[.float .f64 a] w fun r w' => r = .returned (.tuple #[.int .i64 low, .int .i64 0]) ∧ Drawn0 w w') (d0 : (one != low) = false) (d1 : decide (two > wrap64 (2 * one)) = false) (d2 : decide (two < one) = false) (s0 : decide (k < 0) = true) (w : World) :
    Calls Try.prog 12 #[.int .u64 (a : Int), .int .i64 k, .int .i64 n] w fun e w' => e = .returned (.bool true) ∧ Below w.heap.size w w' := by
  have hB := Below.refl w.heap.size w
  go_enter Try.func12, Try.ntmps12
  go_wp2_with (first | (go_at_call 37; refine (fa _).mono ?_; rintro e w' ⟨rfl, ⟨n1, rfl⟩⟩) | (go_at_call 47; (first | with_reducible refine (h1 _).mono ?_ | with_reducible refine (h2 _).mono ?_); rintro e w' ⟨rfl, ⟨n2, rfl⟩⟩) | (go_at_call 45; refine (h3 _).mono ?_; rintro e w' ⟨rfl, ⟨n3, rfl⟩⟩) | (go_at_call 38; refine (alive_calls _).mono ?_; rintro e w1 ⟨rfl, hb1⟩))
  have b1 := below_then (below_dn hB _) hb1
  go_ret
  exact ⟨rfl, by first | exact b1 | exact below_dn b1 _⟩

theorem needs_v3_s2 (a R : Nat) (k n one two low e f g m : Int)
    (fa : ∀ w, Calls Try.prog 37 #[.int .u64 (a : Int)] w fun r w' => r = .returned (.float .f64 a) ∧ Drawn0 w w')
    (h1 : ∀ w, Calls Try.prog 47 #[.float .f64 a, .int .i64 1] w fun r w' => r = .returned (.tuple #[.int .i64 one, .int .i64 0]) ∧ Drawn0 w w')
    (h2 : ∀ w, Calls Try.prog 47 #[.float .f64 a, .int .i64 2] w fun r w' => r = .returned (.tuple #[.int .i64 two, .int .i64 0]) ∧ Drawn0 w w')
    (h3 : ∀ w, Calls Try.prog 45 #[.float .f64 a] w fun r w' => r = .returned (.tuple #[.int .i64 low, .int .i64 0]) ∧ Drawn0 w w') (d0 : (one != low) = false) (d1 : decide (two > wrap64 (2 * one)) = false) (d2 : decide (two < one) = false) (s0 : decide (k < 0) = false) (s1 : decide (k > 1099511627776) = true) (w : World) :
    Calls Try.prog 12 #[.int .u64 (a : Int), .int .i64 k, .int .i64 n] w fun e w' => e = .returned (.bool true) ∧ Below w.heap.size w w' := by
  have hB := Below.refl w.heap.size w
  go_enter Try.func12, Try.ntmps12
  go_wp2_with (first | (go_at_call 37; refine (fa _).mono ?_; rintro e w' ⟨rfl, ⟨n1, rfl⟩⟩) | (go_at_call 47; (first | with_reducible refine (h1 _).mono ?_ | with_reducible refine (h2 _).mono ?_); rintro e w' ⟨rfl, ⟨n2, rfl⟩⟩) | (go_at_call 45; refine (h3 _).mono ?_; rintro e w' ⟨rfl, ⟨n3, rfl⟩⟩) | (go_at_call 38; refine (alive_calls _).mono ?_; rintro e w1 ⟨rfl, hb1⟩))
  have b1 := below_then (below_dn hB _) hb1
  go_ret
  exact ⟨rfl, by first | exact b1 | exact below_dn b1 _⟩

theorem needs_v3_s3 (a R : Nat) (k n one two low e f g m : Int)
    (fa : ∀ w, Calls Try.prog 37 #[.int .u64 (a : Int)] w fun r w' => r = .returned (.float .f64 a) ∧ Drawn0 w w')
    (h1 : ∀ w, Calls Try.prog 47 #[.float .f64 a, .int .i64 1] w fun r w' => r = .returned (.tuple #[.int .i64 one, .int .i64 0]) ∧ Drawn0 w w')
    (h2 : ∀ w, Calls Try.prog 47 #[.float .f64 a, .int .i64 2] w fun r w' => r = .returned (.tuple #[.int .i64 two, .int .i64 0]) ∧ Drawn0 w w')
    (h3 : ∀ w, Calls Try.prog 45 #[.float .f64 a] w fun r w' => r = .returned (.tuple #[.int .i64 low, .int .i64 0]) ∧ Drawn0 w w') (d0 : (one != low) = false) (d1 : decide (two > wrap64 (2 * one)) = false) (d2 : decide (two < one) = false) (s0 : decide (k < 0) = false) (s1 : decide (k > 1099511627776) = false) (s2 : decide (n < 0) = true) (w : World) :
    Calls Try.prog 12 #[.int .u64 (a : Int), .int .i64 k, .int .i64 n] w fun e w' => e = .returned (.bool true) ∧ Below w.heap.size w w' := by
  have hB := Below.refl w.heap.size w
  go_enter Try.func12, Try.ntmps12
  go_wp2_with (first | (go_at_call 37; refine (fa _).mono ?_; rintro e w' ⟨rfl, ⟨n1, rfl⟩⟩) | (go_at_call 47; (first | with_reducible refine (h1 _).mono ?_ | with_reducible refine (h2 _).mono ?_); rintro e w' ⟨rfl, ⟨n2, rfl⟩⟩) | (go_at_call 45; refine (h3 _).mono ?_; rintro e w' ⟨rfl, ⟨n3, rfl⟩⟩) | (go_at_call 38; refine (alive_calls _).mono ?_; rintro e w1 ⟨rfl, hb1⟩))
  have b1 := below_then (below_dn hB _) hb1
  go_ret
  exact ⟨rfl, by first | exact b1 | exact below_dn b1 _⟩

theorem needs_v3_s4 (a R : Nat) (k n one two low e f g m : Int)
    (fa : ∀ w, Calls Try.prog 37 #[.int .u64 (a : Int)] w fun r w' => r = .returned (.float .f64 a) ∧ Drawn0 w w')
    (h1 : ∀ w, Calls Try.prog 47 #[.float .f64 a, .int .i64 1] w fun r w' => r = .returned (.tuple #[.int .i64 one, .int .i64 0]) ∧ Drawn0 w w')
    (h2 : ∀ w, Calls Try.prog 47 #[.float .f64 a, .int .i64 2] w fun r w' => r = .returned (.tuple #[.int .i64 two, .int .i64 0]) ∧ Drawn0 w w')
    (h3 : ∀ w, Calls Try.prog 45 #[.float .f64 a] w fun r w' => r = .returned (.tuple #[.int .i64 low, .int .i64 0]) ∧ Drawn0 w w') (d0 : (one != low) = false) (d1 : decide (two > wrap64 (2 * one)) = false) (d2 : decide (two < one) = false) (s0 : decide (k < 0) = false) (s1 : decide (k > 1099511627776) = false) (s2 : decide (n < 0) = false) (s3 : decide (n > 1000) = true) (w : World) :
    Calls Try.prog 12 #[.int .u64 (a : Int), .int .i64 k, .int .i64 n] w fun e w' => e = .returned (.bool true) ∧ Below w.heap.size w w' := by
  have hB := Below.refl w.heap.size w
  go_enter Try.func12, Try.ntmps12
  go_wp2_with (first | (go_at_call 37; refine (fa _).mono ?_; rintro e w' ⟨rfl, ⟨n1, rfl⟩⟩) | (go_at_call 47; (first | with_reducible refine (h1 _).mono ?_ | with_reducible refine (h2 _).mono ?_); rintro e w' ⟨rfl, ⟨n2, rfl⟩⟩) | (go_at_call 45; refine (h3 _).mono ?_; rintro e w' ⟨rfl, ⟨n3, rfl⟩⟩) | (go_at_call 38; refine (alive_calls _).mono ?_; rintro e w1 ⟨rfl, hb1⟩))
  have b1 := below_then (below_dn hB _) hb1
  go_ret
  exact ⟨rfl, by first | exact b1 | exact below_dn b1 _⟩

theorem needs_v3_s5 (a R : Nat) (k n one two low e f g m : Int)
    (fa : ∀ w, Calls Try.prog 37 #[.int .u64 (a : Int)] w fun r w' => r = .returned (.float .f64 a) ∧ Drawn0 w w')
    (h1 : ∀ w, Calls Try.prog 47 #[.float .f64 a, .int .i64 1] w fun r w' => r = .returned (.tuple #[.int .i64 one, .int .i64 0]) ∧ Drawn0 w w')
    (h2 : ∀ w, Calls Try.prog 47 #[.float .f64 a, .int .i64 2] w fun r w' => r = .returned (.tuple #[.int .i64 two, .int .i64 0]) ∧ Drawn0 w w')
    (h3 : ∀ w, Calls Try.prog 45 #[.float .f64 a] w fun r w' => r = .returned (.tuple #[.int .i64 low, .int .i64 0]) ∧ Drawn0 w w') (d0 : (one != low) = false) (d1 : decide (two > wrap64 (2 * one)) = false) (d2 : decide (two < one) = false) (s0 : decide (k < 0) = false) (s1 : decide (k > 1099511627776) = false) (s2 : decide (n < 0) = false) (s3 : decide (n > 1000) = false) (hr : ∀ w, Calls Try.prog 49 #[.int .i64 k, .int .i64 1] w fun r w' => r = .returned (.float .f64 R) ∧ Drawn0 w w') (hn : ∀ w, Calls Try.prog 47 #[.float .f64 R, .int .i64 n] w fun r w' => r = .returned (.tuple #[.int .i64 m, .int .i64 0]) ∧ Drawn0 w w') (hm : wrap64 (k * n) = m) (w : World) :
    Calls Try.prog 12 #[.int .u64 (a : Int), .int .i64 k, .int .i64 n] w fun e w' => e = .returned (.bool true) ∧ Below w.heap.size w w' := by
  have hB := Below.refl w.heap.size w
  go_enter Try.func12, Try.ntmps12
  go_wp2_with (first | (go_at_call 37; refine (fa _).mono ?_; rintro e w' ⟨rfl, ⟨n1, rfl⟩⟩) | (go_at_call 47; (first | with_reducible refine (h1 _).mono ?_ | with_reducible refine (h2 _).mono ?_ | with_reducible refine (hn _).mono ?_); rintro e w' ⟨rfl, ⟨n2, rfl⟩⟩) | (go_at_call 45; refine (h3 _).mono ?_; rintro e w' ⟨rfl, ⟨n3, rfl⟩⟩) | (go_at_call 49; refine (hr _).mono ?_; rintro e w' ⟨rfl, ⟨n4, rfl⟩⟩) | (go_at_call 38; refine (alive_calls _).mono ?_; rintro e w1 ⟨rfl, hb1⟩))
  have b1 := below_then (below_dn hB _) hb1
  go_ret
  exact ⟨rfl, by first | exact b1 | exact below_dn b1 _⟩

theorem needs_v4_s1 (a R : Nat) (k n one two low e f g m : Int)
    (fa : ∀ w, Calls Try.prog 37 #[.int .u64 (a : Int)] w fun r w' => r = .returned (.float .f64 a) ∧ Drawn0 w w')
    (h1 : ∀ w, Calls Try.prog 47 #[.float .f64 a, .int .i64 1] w fun r w' => r = .returned (.tuple #[.int .i64 one, .int .i64 0]) ∧ Drawn0 w w')
    (h2 : ∀ w, Calls Try.prog 47 #[.float .f64 a, .int .i64 2] w fun r w' => r = .returned (.tuple #[.int .i64 two, .int .i64 f]) ∧ Drawn0 w w')
    (h3 : ∀ w, Calls Try.prog 45 #[.float .f64 a] w fun r w' => r = .returned (.tuple #[.int .i64 low, .int .i64 0]) ∧ Drawn0 w w') (d0 : (one != low) = true) (d3 : (one != wrap64 (low + 1)) = false) (d1 : (f == 0) = false) (s0 : decide (k < 0) = true) (w : World) :
    Calls Try.prog 12 #[.int .u64 (a : Int), .int .i64 k, .int .i64 n] w fun e w' => e = .returned (.bool true) ∧ Below w.heap.size w w' := by
  have hB := Below.refl w.heap.size w
  go_enter Try.func12, Try.ntmps12
  go_wp2_with (first | (go_at_call 37; refine (fa _).mono ?_; rintro e w' ⟨rfl, ⟨n1, rfl⟩⟩) | (go_at_call 47; (first | with_reducible refine (h1 _).mono ?_ | with_reducible refine (h2 _).mono ?_); rintro e w' ⟨rfl, ⟨n2, rfl⟩⟩) | (go_at_call 45; refine (h3 _).mono ?_; rintro e w' ⟨rfl, ⟨n3, rfl⟩⟩) | (go_at_call 38; refine (alive_calls _).mono ?_; rintro e w1 ⟨rfl, hb1⟩))
  have b1 := below_then (below_dn hB _) hb1
  go_ret
  exact ⟨rfl, by first | exact b1 | exact below_dn b1 _⟩

theorem needs_v4_s2 (a R : Nat) (k n one two low e f g m : Int)
    (fa : ∀ w, Calls Try.prog 37 #[.int .u64 (a : Int)] w fun r w' => r = .returned (.float .f64 a) ∧ Drawn0 w w')
    (h1 : ∀ w, Calls Try.prog 47 #[.float .f64 a, .int .i64 1] w fun r w' => r = .returned (.tuple #[.int .i64 one, .int .i64 0]) ∧ Drawn0 w w')
    (h2 : ∀ w, Calls Try.prog 47 #[.float .f64 a, .int .i64 2] w fun r w' => r = .returned (.tuple #[.int .i64 two, .int .i64 f]) ∧ Drawn0 w w')
    (h3 : ∀ w, Calls Try.prog 45 #[.float .f64 a] w fun r w' => r = .returned (.tuple #[.int .i64 low, .int .i64 0]) ∧ Drawn0 w w') (d0 : (one != low) = true) (d3 : (one != wrap64 (low + 1)) = false) (d1 : (f == 0) = false) (s0 : decide (k < 0) = false) (s1 : decide (k > 1099511627776) = true) (w : World) :
    Calls Try.prog 12 #[.int .u64 (a : Int), .int .i64 k, .int .i64 n] w fun e w' => e = .returned (.bool true) ∧ Below w.heap.size w w' := by
  have hB := Below.refl w.heap.size w
  go_enter Try.func12, Try.ntmps12
  go_wp2_with (first | (go_at_call 37; refine (fa _).mono ?_; rintro e w' ⟨rfl, ⟨n1, rfl⟩⟩) | (go_at_call 47; (first | with_reducible refine (h1 _).mono ?_ | with_reducible refine (h2 _).mono ?_); rintro e w' ⟨rfl, ⟨n2, rfl⟩⟩) | (go_at_call 45; refine (h3 _).mono ?_; rintro e w' ⟨rfl, ⟨n3, rfl⟩⟩) | (go_at_call 38; refine (alive_calls _).mono ?_; rintro e w1 ⟨rfl, hb1⟩))
  have b1 := below_then (below_dn hB _) hb1
  go_ret
  exact ⟨rfl, by first | exact b1 | exact below_dn b1 _⟩

theorem needs_v4_s3 (a R : Nat) (k n one two low e f g m : Int)
    (fa : ∀ w, Calls Try.prog 37 #[.int .u64 (a : Int)] w fun r w' => r = .returned (.float .f64 a) ∧ Drawn0 w w')
    (h1 : ∀ w, Calls Try.prog 47 #[.float .f64 a, .int .i64 1] w fun r w' => r = .returned (.tuple #[.int .i64 one, .int .i64 0]) ∧ Drawn0 w w')
    (h2 : ∀ w, Calls Try.prog 47 #[.float .f64 a, .int .i64 2] w fun r w' => r = .returned (.tuple #[.int .i64 two, .int .i64 f]) ∧ Drawn0 w w')
    (h3 : ∀ w, Calls Try.prog 45 #[.float .f64 a] w fun r w' => r = .returned (.tuple #[.int .i64 low, .int .i64 0]) ∧ Drawn0 w w') (d0 : (one != low) = true) (d3 : (one != wrap64 (low + 1)) = false) (d1 : (f == 0) = false) (s0 : decide (k < 0) = false) (s1 : decide (k > 1099511627776) = false) (s2 : decide (n < 0) = true) (w : World) :
    Calls Try.prog 12 #[.int .u64 (a : Int), .int .i64 k, .int .i64 n] w fun e w' => e = .returned (.bool true) ∧ Below w.heap.size w w' := by
  have hB := Below.refl w.heap.size w
  go_enter Try.func12, Try.ntmps12
  go_wp2_with (first | (go_at_call 37; refine (fa _).mono ?_; rintro e w' ⟨rfl, ⟨n1, rfl⟩⟩) | (go_at_call 47; (first | with_reducible refine (h1 _).mono ?_ | with_reducible refine (h2 _).mono ?_); rintro e w' ⟨rfl, ⟨n2, rfl⟩⟩) | (go_at_call 45; refine (h3 _).mono ?_; rintro e w' ⟨rfl, ⟨n3, rfl⟩⟩) | (go_at_call 38; refine (alive_calls _).mono ?_; rintro e w1 ⟨rfl, hb1⟩))
  have b1 := below_then (below_dn hB _) hb1
  go_ret
  exact ⟨rfl, by first | exact b1 | exact below_dn b1 _⟩

theorem needs_v4_s4 (a R : Nat) (k n one two low e f g m : Int)
    (fa : ∀ w, Calls Try.prog 37 #[.int .u64 (a : Int)] w fun r w' => r = .returned (.float .f64 a) ∧ Drawn0 w w')
    (h1 : ∀ w, Calls Try.prog 47 #[.float .f64 a, .int .i64 1] w fun r w' => r = .returned (.tuple #[.int .i64 one, .int .i64 0]) ∧ Drawn0 w w')
    (h2 : ∀ w, Calls Try.prog 47 #[.float .f64 a, .int .i64 2] w fun r w' => r = .returned (.tuple #[.int .i64 two, .int .i64 f]) ∧ Drawn0 w w')
    (h3 : ∀ w, Calls Try.prog 45 #[.float .f64 a] w fun r w' => r = .returned (.tuple #[.int .i64 low, .int .i64 0]) ∧ Drawn0 w w') (d0 : (one != low) = true) (d3 : (one != wrap64 (low + 1)) = false) (d1 : (f == 0) = false) (s0 : decide (k < 0) = false) (s1 : decide (k > 1099511627776) = false) (s2 : decide (n < 0) = false) (s3 : decide (n > 1000) = true) (w : World) :
    Calls Try.prog 12 #[.int .u64 (a : Int), .int .i64 k, .int .i64 n] w fun e w' => e = .returned (.bool true) ∧ Below w.heap.size w w' := by
  have hB := Below.refl w.heap.size w
  go_enter Try.func12, Try.ntmps12
  go_wp2_with (first | (go_at_call 37; refine (fa _).mono ?_; rintro e w' ⟨rfl, ⟨n1, rfl⟩⟩) | (go_at_call 47; (first | with_reducible refine (h1 _).mono ?_ | with_reducible refine (h2 _).mono ?_); rintro e w' ⟨rfl, ⟨n2, rfl⟩⟩) | (go_at_call 45; refine (h3 _).mono ?_; rintro e w' ⟨rfl, ⟨n3, rfl⟩⟩) | (go_at_call 38; refine (alive_calls _).mono ?_; rintro e w1 ⟨rfl, hb1⟩))
  have b1 := below_then (below_dn hB _) hb1
  go_ret
  exact ⟨rfl, by first | exact b1 | exact below_dn b1 _⟩

theorem needs_v4_s5 (a R : Nat) (k n one two low e f g m : Int)
    (fa : ∀ w, Calls Try.prog 37 #[.int .u64 (a : Int)] w fun r w' => r = .returned (.float .f64 a) ∧ Drawn0 w w')
    (h1 : ∀ w, Calls Try.prog 47 #[.float .f64 a, .int .i64 1] w fun r w' => r = .returned (.tuple #[.int .i64 one, .int .i64 0]) ∧ Drawn0 w w')
    (h2 : ∀ w, Calls Try.prog 47 #[.float .f64 a, .int .i64 2] w fun r w' => r = .returned (.tuple #[.int .i64 two, .int .i64 f]) ∧ Drawn0 w w')
    (h3 : ∀ w, Calls Try.prog 45 #[.float .f64 a] w fun r w' => r = .returned (.tuple #[.int .i64 low, .int .i64 0]) ∧ Drawn0 w w') (d0 : (one != low) = true) (d3 : (one != wrap64 (low + 1)) = false) (d1 : (f == 0) = false) (s0 : decide (k < 0) = false) (s1 : decide (k > 1099511627776) = false) (s2 : decide (n < 0) = false) (s3 : decide (n > 1000) = false) (hr : ∀ w, Calls Try.prog 49 #[.int .i64 k, .int .i64 1] w fun r w' => r = .returned (.float .f64 R) ∧ Drawn0 w w') (hn : ∀ w, Calls Try.prog 47 #[.float .f64 R, .int .i64 n] w fun r w' => r = .returned (.tuple #[.int .i64 m, .int .i64 0]) ∧ Drawn0 w w') (hm : wrap64 (k * n) = m) (w : World) :
    Calls Try.prog 12 #[.int .u64 (a : Int), .int .i64 k, .int .i64 n] w fun e w' => e = .returned (.bool true) ∧ Below w.heap.size w w' := by
  have hB := Below.refl w.heap.size w
  go_enter Try.func12, Try.ntmps12
  go_wp2_with (first | (go_at_call 37; refine (fa _).mono ?_; rintro e w' ⟨rfl, ⟨n1, rfl⟩⟩) | (go_at_call 47; (first | with_reducible refine (h1 _).mono ?_ | with_reducible refine (h2 _).mono ?_ | with_reducible refine (hn _).mono ?_); rintro e w' ⟨rfl, ⟨n2, rfl⟩⟩) | (go_at_call 45; refine (h3 _).mono ?_; rintro e w' ⟨rfl, ⟨n3, rfl⟩⟩) | (go_at_call 49; refine (hr _).mono ?_; rintro e w' ⟨rfl, ⟨n4, rfl⟩⟩) | (go_at_call 38; refine (alive_calls _).mono ?_; rintro e w1 ⟨rfl, hb1⟩))
  have b1 := below_then (below_dn hB _) hb1
  go_ret
  exact ⟨rfl, by first | exact b1 | exact below_dn b1 _⟩

theorem needs_v5_s1 (a R : Nat) (k n one two low e f g m : Int)
    (fa : ∀ w, Calls Try.prog 37 #[.int .u64 (a : Int)] w fun r w' => r = .returned (.float .f64 a) ∧ Drawn0 w w')
    (h1 : ∀ w, Calls Try.prog 47 #[.float .f64 a, .int .i64 1] w fun r w' => r = .returned (.tuple #[.int .i64 one, .int .i64 0]) ∧ Drawn0 w w')
    (h2 : ∀ w, Calls Try.prog 47 #[.float .f64 a, .int .i64 2] w fun r w' => r = .returned (.tuple #[.int .i64 two, .int .i64 0]) ∧ Drawn0 w w')
    (h3 : ∀ w, Calls Try.prog 45 #[.float .f64 a] w fun r w' => r = .returned (.tuple #[.int .i64 low, .int .i64 0]) ∧ Drawn0 w w') (d0 : (one != low) = true) (d3 : (one != wrap64 (low + 1)) = false) (d1 : decide (two > wrap64 (2 * one)) = false) (d2 : decide (two < one) = false) (s0 : decide (k < 0) = true) (w : World) :
    Calls Try.prog 12 #[.int .u64 (a : Int), .int .i64 k, .int .i64 n] w fun e w' => e = .returned (.bool true) ∧ Below w.heap.size w w' := by
  have hB := Below.refl w.heap.size w
  go_enter Try.func12, Try.ntmps12
  go_wp2_with (first | (go_at_call 37; refine (fa _).mono ?_; rintro e w' ⟨rfl, ⟨n1, rfl⟩⟩) | (go_at_call 47; (first | with_reducible refine (h1 _).mono ?_ | with_reducible refine (h2 _).mono ?_); rintro e w' ⟨rfl, ⟨n2, rfl⟩⟩) | (go_at_call 45; refine (h3 _).mono ?_; rintro e w' ⟨rfl, ⟨n3, rfl⟩⟩) | (go_at_call 38; refine (alive_calls _).mono ?_; rintro e w1 ⟨rfl, hb1⟩))
  have b1 := below_then (below_dn hB _) hb1
  go_ret
  exact ⟨rfl, by first | exact b1 | exact below_dn b1 _⟩

theorem needs_v5_s2 (a R : Nat) (k n one two low e f g m : Int)
    (fa : ∀ w, Calls Try.prog 37 #[.int .u64 (a : Int)] w fun r w' => r = .returned (.float .f64 a) ∧ Drawn0 w w')
    (h1 : ∀ w, Calls Try.prog 47 #[.float .f64 a, .int .i64 1] w fun r w' => r = .returned (.tuple #[.int .i64 one, .int .i64 0]) ∧ Drawn0 w w')
    (h2 : ∀ w, Calls Try.prog 47 #[.float .f64 a, .int .i64 2] w fun r w' => r = .returned (.tuple #[.int .i64 two, .int .i64 0]) ∧ Drawn0 w w')
    (h3 : ∀ w, Calls Try.prog 45 #[.float .f64 a] w fun r w' => r = .returned (.tuple #[.int .i64 low, .int .i64 0]) ∧ Drawn0 w w') (d0 : (one != low) = true) (d3 : (one != wrap64 (low + 1)) = false) (d1 : decide (two > wrap64 (2 * one)) = false) (d2 : decide (two < one) = false) (s0 : decide (k < 0) = false) (s1 : decide (k > 1099511627776) = true) (w : World) :
    Calls Try.prog 12 #[.int .u64 (a : Int), .int .i64 k, .int .i64 n] w fun e w' => e = .returned (.bool true) ∧ Below w.heap.size w w' := by
  have hB := Below.refl w.heap.size w
  go_enter Try.func12, Try.ntmps12
  go_wp2_with (first | (go_at_call 37; refine (fa _).mono ?_; rintro e w' ⟨rfl, ⟨n1, rfl⟩⟩) | (go_at_call 47; (first | with_reducible refine (h1 _).mono ?_ | with_reducible refine (h2 _).mono ?_); rintro e w' ⟨rfl, ⟨n2, rfl⟩⟩) | (go_at_call 45; refine (h3 _).mono ?_; rintro e w' ⟨rfl, ⟨n3, rfl⟩⟩) | (go_at_call 38; refine (alive_calls _).mono ?_; rintro e w1 ⟨rfl, hb1⟩))
  have b1 := below_then (below_dn hB _) hb1
  go_ret
  exact ⟨rfl, by first | exact b1 | exact below_dn b1 _⟩

theorem needs_v5_s3 (a R : Nat) (k n one two low e f g m : Int)
    (fa : ∀ w, Calls Try.prog 37 #[.int .u64 (a : Int)] w fun r w' => r = .returned (.float .f64 a) ∧ Drawn0 w w')
    (h1 : ∀ w, Calls Try.prog 47 #[.float .f64 a, .int .i64 1] w fun r w' => r = .returned (.tuple #[.int .i64 one, .int .i64 0]) ∧ Drawn0 w w')
    (h2 : ∀ w, Calls Try.prog 47 #[.float .f64 a, .int .i64 2] w fun r w' => r = .returned (.tuple #[.int .i64 two, .int .i64 0]) ∧ Drawn0 w w')
    (h3 : ∀ w, Calls Try.prog 45 #[.float .f64 a] w fun r w' => r = .returned (.tuple #[.int .i64 low, .int .i64 0]) ∧ Drawn0 w w') (d0 : (one != low) = true) (d3 : (one != wrap64 (low + 1)) = false) (d1 : decide (two > wrap64 (2 * one)) = false) (d2 : decide (two < one) = false) (s0 : decide (k < 0) = false) (s1 : decide (k > 1099511627776) = false) (s2 : decide (n < 0) = true) (w : World) :
    Calls Try.prog 12 #[.int .u64 (a : Int), .int .i64 k, .int .i64 n] w fun e w' => e = .returned (.bool true) ∧ Below w.heap.size w w' := by
  have hB := Below.refl w.heap.size w
  go_enter Try.func12, Try.ntmps12
  go_wp2_with (first | (go_at_call 37; refine (fa _).mono ?_; rintro e w' ⟨rfl, ⟨n1, rfl⟩⟩) | (go_at_call 47; (first | with_reducible refine (h1 _).mono ?_ | with_reducible refine (h2 _).mono ?_); rintro e w' ⟨rfl, ⟨n2, rfl⟩⟩) | (go_at_call 45; refine (h3 _).mono ?_; rintro e w' ⟨rfl, ⟨n3, rfl⟩⟩) | (go_at_call 38; refine (alive_calls _).mono ?_; rintro e w1 ⟨rfl, hb1⟩))
  have b1 := below_then (below_dn hB _) hb1
  go_ret
  exact ⟨rfl, by first | exact b1 | exact below_dn b1 _⟩

theorem needs_v5_s4 (a R : Nat) (k n one two low e f g m : Int)
    (fa : ∀ w, Calls Try.prog 37 #[.int .u64 (a : Int)] w fun r w' => r = .returned (.float .f64 a) ∧ Drawn0 w w')
    (h1 : ∀ w, Calls Try.prog 47 #[.float .f64 a, .int .i64 1] w fun r w' => r = .returned (.tuple #[.int .i64 one, .int .i64 0]) ∧ Drawn0 w w')
    (h2 : ∀ w, Calls Try.prog 47 #[.float .f64 a, .int .i64 2] w fun r w' => r = .returned (.tuple #[.int .i64 two, .int .i64 0]) ∧ Drawn0 w w')
    (h3 : ∀ w, Calls Try.prog 45 #[.float .f64 a] w fun r w' => r = .returned (.tuple #[.int .i64 low, .int .i64 0]) ∧ Drawn0 w w') (d0 : (one != low) = true) (d3 : (one != wrap64 (low + 1)) = false) (d1 : decide (two > wrap64 (2 * one)) = false) (d2 : decide (two < one) = false) (s0 : decide (k < 0) = false) (s1 : decide (k > 1099511627776) = false) (s2 : decide (n < 0) = false) (s3 : decide (n > 1000) = true) (w : World) :
    Calls Try.prog 12 #[.int .u64 (a : Int), .int .i64 k, .int .i64 n] w fun e w' => e = .returned (.bool true) ∧ Below w.heap.size w w' := by
  have hB := Below.refl w.heap.size w
  go_enter Try.func12, Try.ntmps12
  go_wp2_with (first | (go_at_call 37; refine (fa _).mono ?_; rintro e w' ⟨rfl, ⟨n1, rfl⟩⟩) | (go_at_call 47; (first | with_reducible refine (h1 _).mono ?_ | with_reducible refine (h2 _).mono ?_); rintro e w' ⟨rfl, ⟨n2, rfl⟩⟩) | (go_at_call 45; refine (h3 _).mono ?_; rintro e w' ⟨rfl, ⟨n3, rfl⟩⟩) | (go_at_call 38; refine (alive_calls _).mono ?_; rintro e w1 ⟨rfl, hb1⟩))
  have b1 := below_then (below_dn hB _) hb1
  go_ret
  exact ⟨rfl, by first | exact b1 | exact below_dn b1 _⟩

theorem needs_v5_s5 (a R : Nat) (k n one two low e f g m : Int)
    (fa : ∀ w, Calls Try.prog 37 #[.int .u64 (a : Int)] w fun r w' => r = .returned (.float .f64 a) ∧ Drawn0 w w')
    (h1 : ∀ w, Calls Try.prog 47 #[.float .f64 a, .int .i64 1] w fun r w' => r = .returned (.tuple #[.int .i64 one, .int .i64 0]) ∧ Drawn0 w w')
    (h2 : ∀ w, Calls Try.prog 47 #[.float .f64 a, .int .i64 2] w fun r w' => r = .returned (.tuple #[.int .i64 two, .int .i64 0]) ∧ Drawn0 w w')
    (h3 : ∀ w, Calls Try.prog 45 #[.float .f64 a] w fun r w' => r = .returned (.tuple #[.int .i64 low, .int .i64 0]) ∧ Drawn0 w w') (d0 : (one != low) = true) (d3 : (one != wrap64 (low + 1)) = false) (d1 : decide (two > wrap64 (2 * one)) = false) (d2 : decide (two < one) = false) (s0 : decide (k < 0) = false) (s1 : decide (k > 1099511627776) = false) (s2 : decide (n < 0) = false) (s3 : decide (n > 1000) = false) (hr : ∀ w, Calls Try.prog 49 #[.int .i64 k, .int .i64 1] w fun r w' => r = .returned (.float .f64 R) ∧ Drawn0 w w') (hn : ∀ w, Calls Try.prog 47 #[.float .f64 R, .int .i64 n] w fun r w' => r = .returned (.tuple #[.int .i64 m, .int .i64 0]) ∧ Drawn0 w w') (hm : wrap64 (k * n) = m) (w : World) :
    Calls Try.prog 12 #[.int .u64 (a : Int), .int .i64 k, .int .i64 n] w fun e w' => e = .returned (.bool true) ∧ Below w.heap.size w w' := by
  have hB := Below.refl w.heap.size w
  go_enter Try.func12, Try.ntmps12
  go_wp2_with (first | (go_at_call 37; refine (fa _).mono ?_; rintro e w' ⟨rfl, ⟨n1, rfl⟩⟩) | (go_at_call 47; (first | with_reducible refine (h1 _).mono ?_ | with_reducible refine (h2 _).mono ?_ | with_reducible refine (hn _).mono ?_); rintro e w' ⟨rfl, ⟨n2, rfl⟩⟩) | (go_at_call 45; refine (h3 _).mono ?_; rintro e w' ⟨rfl, ⟨n3, rfl⟩⟩) | (go_at_call 49; refine (hr _).mono ?_; rintro e w' ⟨rfl, ⟨n4, rfl⟩⟩) | (go_at_call 38; refine (alive_calls _).mono ?_; rintro e w1 ⟨rfl, hb1⟩))
  have b1 := below_then (below_dn hB _) hb1
  go_ret
  exact ⟨rfl, by first | exact b1 | exact below_dn b1 _⟩

end Go.Proofs.Ytfkbcldeohblpaa.U
