/- GaugeRatios (function 11): its paths (printed by wip/tools/ratios.py). -/
import Derived.Test.YtfkbcldeohblpaaURatioCall
import Derived.Test.YtfkbcldeohblpaaGaugeTellsWalkX
namespace Go.Proofs.Ytfkbcldeohblpaa.U
open Go.RowKit Go.Proofs.YtfkbcldeohblpaaW.PrintWords Go.Proofs.YtfkbcldeohblpaaW.PrintLast Go.Proofs.YtfkbcldeohblpaaW.PrintMore
set_option linter.unusedVariables false
set_option linter.unusedSimpArgs false

set_option maxHeartbeats 8000000
set_option maxRecDepth 100000

theorem ratios_g0 (a b : Int) (s0 : decide (a > 1048576) = true) (w : World) :
    Calls Try.prog 11 #[.int .i64 a, .int .i64 b] w fun e w' => e = .returned (.bool true) ∧ Below w.heap.size w w' := by
  have hB := Below.refl w.heap.size w
  go_enter Try.func11, Try.ntmps11
  go_wp2_with (go_at_call 38; refine (alive_calls _).mono ?_; rintro e w1 ⟨rfl, hb1⟩)
  go_ret
  exact ⟨rfl, by first | exact hb1 | exact below_dn hb1 _⟩

theorem ratios_g1 (a b : Int) (s0 : decide (a > 1048576) = false) (s1 : decide (a < -1048576) = true) (w : World) :
    Calls Try.prog 11 #[.int .i64 a, .int .i64 b] w fun e w' => e = .returned (.bool true) ∧ Below w.heap.size w w' := by
  have hB := Below.refl w.heap.size w
  go_enter Try.func11, Try.ntmps11
  go_wp2_with (go_at_call 38; refine (alive_calls _).mono ?_; rintro e w1 ⟨rfl, hb1⟩)
  go_ret
  exact ⟨rfl, by first | exact hb1 | exact below_dn hb1 _⟩

theorem ratios_g2 (a b : Int) (s0 : decide (a > 1048576) = false) (s1 : decide (a < -1048576) = false) (s2 : decide (b > 1048576) = true) (w : World) :
    Calls Try.prog 11 #[.int .i64 a, .int .i64 b] w fun e w' => e = .returned (.bool true) ∧ Below w.heap.size w w' := by
  have hB := Below.refl w.heap.size w
  go_enter Try.func11, Try.ntmps11
  go_wp2_with (go_at_call 38; refine (alive_calls _).mono ?_; rintro e w1 ⟨rfl, hb1⟩)
  go_ret
  exact ⟨rfl, by first | exact hb1 | exact below_dn hb1 _⟩

theorem ratios_g3 (a b : Int) (s0 : decide (a > 1048576) = false) (s1 : decide (a < -1048576) = false) (s2 : decide (b > 1048576) = false) (s3 : decide (b < -1048576) = true) (w : World) :
    Calls Try.prog 11 #[.int .i64 a, .int .i64 b] w fun e w' => e = .returned (.bool true) ∧ Below w.heap.size w w' := by
  have hB := Below.refl w.heap.size w
  go_enter Try.func11, Try.ntmps11
  go_wp2_with (go_at_call 38; refine (alive_calls _).mono ?_; rintro e w1 ⟨rfl, hb1⟩)
  go_ret
  exact ⟨rfl, by first | exact hb1 | exact below_dn hb1 _⟩

theorem kind_nan {r : Nat} (h : isNaN r = true) : kind r = 0 := by unfold kind; rw [if_pos h]

theorem ratios_nan   (w : World) :
    Calls Try.prog 11 #[.int .i64 0, .int .i64 0] w fun e w' => e = .returned (.bool true) ∧ Below w.heap.size w w' := by
  have hB := Below.refl w.heap.size w
  go_enter Try.func11, Try.ntmps11
  go_wp2_with (first
    | (go_at_call 38; refine (alive_calls _).mono ?_; rintro e w1 ⟨rfl, hb1⟩)
    | (go_at_call 49; refine (ratio_nan_calls _).mono ?_; rintro e w' ⟨r, rfl, ⟨l1, l2⟩, ⟨n4, rfl⟩⟩)
    | (go_at_call 41; refine (kind_calls _ l1 _).mono ?_; rw [kind_nan l2]; rintro e w' ⟨rfl, ⟨n5, rfl⟩⟩))
  have b2 := below_then (below_dn hB _) hb1
  go_ret
  exact ⟨rfl, by first | exact b2 | exact below_dn b2 _⟩

theorem ratios_inf (a C : Int) (r : Nat) (s0 : decide (a > 1048576) = false) (s1 : decide (a < -1048576) = false) (z : (a == 0) = false) (hr : ∀ w, Calls Try.prog 49 #[.int .i64 a, .int .i64 0] w fun e w' => e = .returned (.float .f64 r) ∧ Drawn0 w w') (hk : ∀ w, Calls Try.prog 41 #[.float .f64 r] w fun e w' => e = .returned (.int .i64 1) ∧ Drawn0 w w') (f0 : ∀ w, Calls Try.prog 37 #[.int .u64 0] w fun e w' => e = .returned (.float .f64 0) ∧ Drawn0 w w') (hc : ∀ w, Calls Try.prog 43 #[.float .f64 r, .float .f64 0] w fun e w' => e = .returned (.int .i64 C) ∧ Below w.heap.size w w') (d : decide (C < 0) = decide (a < 0)) (w : World) :
    Calls Try.prog 11 #[.int .i64 a, .int .i64 0] w fun e w' => e = .returned (.bool true) ∧ Below w.heap.size w w' := by
  have hB := Below.refl w.heap.size w
  go_enter Try.func11, Try.ntmps11
  go_wp2_with (first
    | (go_at_call 38; refine (alive_calls _).mono ?_; rintro e w1 ⟨rfl, hb1⟩)
    | (go_at_call 49; refine (hr _).mono ?_; rintro e w' ⟨rfl, ⟨n4, rfl⟩⟩)
    | (go_at_call 41; refine (hk _).mono ?_; rintro e w' ⟨rfl, ⟨n5, rfl⟩⟩)
    | (go_at_call 37; refine (f0 _).mono ?_; rintro e w' ⟨rfl, ⟨n1, rfl⟩⟩)
    | (go_at_call 43; refine (hc _).mono ?_; rintro e w2 ⟨rfl, hb2⟩))
  have b1 := below_then (below_dn hB _) hb1
  have b2 : Below w.heap.size w w2 := by first | exact below_then b1 hb2 | exact below_then (below_dn b1 _) hb2
  go_ret
  exact ⟨rfl, by first | exact b2 | exact below_dn b2 _⟩

theorem ratios_even (a b n : Int) (r : Nat) (s0 : decide (a > 1048576) = false) (s1 : decide (a < -1048576) = false) (s2 : decide (b > 1048576) = false) (s3 : decide (b < -1048576) = false) (zb : (b == 0) = false) (z : (a != 0) = true) (hr : ∀ w, Calls Try.prog 49 #[.int .i64 a, .int .i64 b] w fun e w' => e = .returned (.float .f64 r) ∧ Drawn0 w w') (hf : ∀ w, Calls Try.prog 45 #[.float .f64 r] w fun e w' => e = .returned (.tuple #[.int .i64 n, .int .i64 0]) ∧ Drawn0 w w') (hq : wrap64 (Int.tdiv a b) = n) (hm : (Int.tmod a b != 0) = false) (w : World) :
    Calls Try.prog 11 #[.int .i64 a, .int .i64 b] w fun e w' => e = .returned (.bool true) ∧ Below w.heap.size w w' := by
  have hB := Below.refl w.heap.size w
  have nb : ¬ b = 0 := by rw [beq_eq_false_iff_ne] at zb; exact zb
  go_enter Try.func11, Try.ntmps11
  go_wp2_with (first
    | (go_at_call 38; refine (alive_calls _).mono ?_; rintro e w1 ⟨rfl, hb1⟩)
    | (go_at_call 49; refine (hr _).mono ?_; rintro e w' ⟨rfl, ⟨n4, rfl⟩⟩)
    | (go_at_call 45; refine (hf _).mono ?_; rintro e w' ⟨rfl, ⟨n3, rfl⟩⟩))
  have b2 := below_then (below_dn hB _) hb1
  go_ret
  exact ⟨rfl, by first | exact b2 | exact below_dn b2 _⟩

theorem ratios_odd_true (a b n : Int) (r : Nat) (s0 : decide (a > 1048576) = false) (s1 : decide (a < -1048576) = false) (s2 : decide (b > 1048576) = false) (s3 : decide (b < -1048576) = false) (zb : (b == 0) = false) (z : (a != 0) = true) (hr : ∀ w, Calls Try.prog 49 #[.int .i64 a, .int .i64 b] w fun e w' => e = .returned (.float .f64 r) ∧ Drawn0 w w') (hf : ∀ w, Calls Try.prog 45 #[.float .f64 r] w fun e w' => e = .returned (.tuple #[.int .i64 n, .int .i64 0]) ∧ Drawn0 w w') (hq : wrap64 (Int.tdiv a b) = n) (hm : (Int.tmod a b != 0) = true) (sa : decide (a < 0) = true) (sb : decide (b < 0) = true) (w : World) :
    Calls Try.prog 11 #[.int .i64 a, .int .i64 b] w fun e w' => e = .returned (.bool true) ∧ Below w.heap.size w w' := by
  have hB := Below.refl w.heap.size w
  have nb : ¬ b = 0 := by rw [beq_eq_false_iff_ne] at zb; exact zb
  go_enter Try.func11, Try.ntmps11
  go_wp2_with (first
    | (go_at_call 38; refine (alive_calls _).mono ?_; rintro e w1 ⟨rfl, hb1⟩)
    | (go_at_call 49; refine (hr _).mono ?_; rintro e w' ⟨rfl, ⟨n4, rfl⟩⟩)
    | (go_at_call 45; refine (hf _).mono ?_; rintro e w' ⟨rfl, ⟨n3, rfl⟩⟩))
  have b2 := below_then (below_dn hB _) hb1
  go_ret
  exact ⟨rfl, by first | exact b2 | exact below_dn b2 _⟩

theorem ratios_less_true (a b n q : Int) (r : Nat) (s0 : decide (a > 1048576) = false) (s1 : decide (a < -1048576) = false) (s2 : decide (b > 1048576) = false) (s3 : decide (b < -1048576) = false) (zb : (b == 0) = false) (z : (a != 0) = true) (hr : ∀ w, Calls Try.prog 49 #[.int .i64 a, .int .i64 b] w fun e w' => e = .returned (.float .f64 r) ∧ Drawn0 w w') (hf : ∀ w, Calls Try.prog 45 #[.float .f64 r] w fun e w' => e = .returned (.tuple #[.int .i64 n, .int .i64 0]) ∧ Drawn0 w w') (hq : wrap64 (Int.tdiv a b) = q) (hm : (Int.tmod a b != 0) = true) (sa : decide (a < 0) = true) (sb : decide (b < 0) = false) (hn : wrap64 (q - 1) = n) (w : World) :
    Calls Try.prog 11 #[.int .i64 a, .int .i64 b] w fun e w' => e = .returned (.bool true) ∧ Below w.heap.size w w' := by
  have hB := Below.refl w.heap.size w
  have nb : ¬ b = 0 := by rw [beq_eq_false_iff_ne] at zb; exact zb
  go_enter Try.func11, Try.ntmps11
  go_wp2_with (first
    | (go_at_call 38; refine (alive_calls _).mono ?_; rintro e w1 ⟨rfl, hb1⟩)
    | (go_at_call 49; refine (hr _).mono ?_; rintro e w' ⟨rfl, ⟨n4, rfl⟩⟩)
    | (go_at_call 45; refine (hf _).mono ?_; rintro e w' ⟨rfl, ⟨n3, rfl⟩⟩))
  have b2 := below_then (below_dn hB _) hb1
  go_ret
  exact ⟨rfl, by first | exact b2 | exact below_dn b2 _⟩

theorem ratios_less_false (a b n q : Int) (r : Nat) (s0 : decide (a > 1048576) = false) (s1 : decide (a < -1048576) = false) (s2 : decide (b > 1048576) = false) (s3 : decide (b < -1048576) = false) (zb : (b == 0) = false) (z : (a != 0) = true) (hr : ∀ w, Calls Try.prog 49 #[.int .i64 a, .int .i64 b] w fun e w' => e = .returned (.float .f64 r) ∧ Drawn0 w w') (hf : ∀ w, Calls Try.prog 45 #[.float .f64 r] w fun e w' => e = .returned (.tuple #[.int .i64 n, .int .i64 0]) ∧ Drawn0 w w') (hq : wrap64 (Int.tdiv a b) = q) (hm : (Int.tmod a b != 0) = true) (sa : decide (a < 0) = false) (sb : decide (b < 0) = true) (hn : wrap64 (q - 1) = n) (w : World) :
    Calls Try.prog 11 #[.int .i64 a, .int .i64 b] w fun e w' => e = .returned (.bool true) ∧ Below w.heap.size w w' := by
  have hB := Below.refl w.heap.size w
  have nb : ¬ b = 0 := by rw [beq_eq_false_iff_ne] at zb; exact zb
  go_enter Try.func11, Try.ntmps11
  go_wp2_with (first
    | (go_at_call 38; refine (alive_calls _).mono ?_; rintro e w1 ⟨rfl, hb1⟩)
    | (go_at_call 49; refine (hr _).mono ?_; rintro e w' ⟨rfl, ⟨n4, rfl⟩⟩)
    | (go_at_call 45; refine (hf _).mono ?_; rintro e w' ⟨rfl, ⟨n3, rfl⟩⟩))
  have b2 := below_then (below_dn hB _) hb1
  go_ret
  exact ⟨rfl, by first | exact b2 | exact below_dn b2 _⟩

theorem ratios_odd_false (a b n : Int) (r : Nat) (s0 : decide (a > 1048576) = false) (s1 : decide (a < -1048576) = false) (s2 : decide (b > 1048576) = false) (s3 : decide (b < -1048576) = false) (zb : (b == 0) = false) (z : (a != 0) = true) (hr : ∀ w, Calls Try.prog 49 #[.int .i64 a, .int .i64 b] w fun e w' => e = .returned (.float .f64 r) ∧ Drawn0 w w') (hf : ∀ w, Calls Try.prog 45 #[.float .f64 r] w fun e w' => e = .returned (.tuple #[.int .i64 n, .int .i64 0]) ∧ Drawn0 w w') (hq : wrap64 (Int.tdiv a b) = n) (hm : (Int.tmod a b != 0) = true) (sa : decide (a < 0) = false) (sb : decide (b < 0) = false) (w : World) :
    Calls Try.prog 11 #[.int .i64 a, .int .i64 b] w fun e w' => e = .returned (.bool true) ∧ Below w.heap.size w w' := by
  have hB := Below.refl w.heap.size w
  have nb : ¬ b = 0 := by rw [beq_eq_false_iff_ne] at zb; exact zb
  go_enter Try.func11, Try.ntmps11
  go_wp2_with (first
    | (go_at_call 38; refine (alive_calls _).mono ?_; rintro e w1 ⟨rfl, hb1⟩)
    | (go_at_call 49; refine (hr _).mono ?_; rintro e w' ⟨rfl, ⟨n4, rfl⟩⟩)
    | (go_at_call 45; refine (hf _).mono ?_; rintro e w' ⟨rfl, ⟨n3, rfl⟩⟩))
  have b2 := below_then (below_dn hB _) hb1
  go_ret
  exact ⟨rfl, by first | exact b2 | exact below_dn b2 _⟩

theorem ratios_zero (b C : Int) (r : Nat) (s2 : decide (b > 1048576) = false) (s3 : decide (b < -1048576) = false) (zb : (b == 0) = false) (hr : ∀ w, Calls Try.prog 49 #[.int .i64 0, .int .i64 b] w fun e w' => e = .returned (.float .f64 r) ∧ Drawn0 w w') (hf : ∀ w, Calls Try.prog 45 #[.float .f64 r] w fun e w' => e = .returned (.tuple #[.int .i64 0, .int .i64 0]) ∧ Drawn0 w w') (hq : wrap64 (Int.tdiv 0 b) = 0) (hm : (Int.tmod 0 b != 0) = false) (f0 : ∀ w, Calls Try.prog 37 #[.int .u64 0] w fun e w' => e = .returned (.float .f64 0) ∧ Drawn0 w w') (hc : ∀ w, Calls Try.prog 43 #[.float .f64 r, .float .f64 0] w fun e w' => e = .returned (.int .i64 C) ∧ Below w.heap.size w w') (d : decide (C < 0) = decide (b < 0)) (w : World) :
    Calls Try.prog 11 #[.int .i64 0, .int .i64 b] w fun e w' => e = .returned (.bool true) ∧ Below w.heap.size w w' := by
  have hB := Below.refl w.heap.size w
  have nb : ¬ b = 0 := by rw [beq_eq_false_iff_ne] at zb; exact zb
  go_enter Try.func11, Try.ntmps11
  go_wp2_with (first
    | (go_at_call 38; refine (alive_calls _).mono ?_; rintro e w1 ⟨rfl, hb1⟩)
    | (go_at_call 49; refine (hr _).mono ?_; rintro e w' ⟨rfl, ⟨n4, rfl⟩⟩)
    | (go_at_call 45; refine (hf _).mono ?_; rintro e w' ⟨rfl, ⟨n3, rfl⟩⟩)
    | (go_at_call 37; refine (f0 _).mono ?_; rintro e w' ⟨rfl, ⟨n1, rfl⟩⟩)
    | (go_at_call 43; refine (hc _).mono ?_; rintro e w2 ⟨rfl, hb2⟩))
  have b1 := below_then (below_dn hB _) hb2
  have b2 : Below w.heap.size w w1 := by first | exact below_then b1 hb1 | exact below_then (below_dn b1 _) hb1
  go_ret
  exact ⟨rfl, by first | exact b2 | exact below_dn b2 _⟩

end Go.Proofs.Ytfkbcldeohblpaa.U
