/- GaugeOrder: the law's function answers true for any three numbers (paths printed by wip/tools/order.py). -/
import Derived.Test.YtfkbcldeohblpaaGaugeTellsWalkX
namespace Go.Proofs.Ytfkbcldeohblpaa.U
open Go.RowKit Go.Proofs.YtfkbcldeohblpaaW.PrintWords Go.Proofs.YtfkbcldeohblpaaW.PrintLast Go.Proofs.YtfkbcldeohblpaaW.PrintMore
set_option linter.unusedVariables false
set_option linter.unusedSimpArgs false

set_option maxHeartbeats 8000000
set_option maxRecDepth 100000
theorem order_gt (a b c : Nat) (q r : Int) (x y : Int)
    (fa : ∀ w, Calls Try.prog 37 #[.int .u64 (a : Int)] w fun e w' => e = .returned (.float .f64 a) ∧ Drawn0 w w')
    (fb : ∀ w, Calls Try.prog 37 #[.int .u64 (b : Int)] w fun e w' => e = .returned (.float .f64 b) ∧ Drawn0 w w')
    (fc : ∀ w, Calls Try.prog 37 #[.int .u64 (c : Int)] w fun e w' => e = .returned (.float .f64 c) ∧ Drawn0 w w')
    (g1 : ∀ w, Calls Try.prog 39 #[.float .f64 a] w fun e w' => e = .returned (.int .u64 x) ∧ Drawn0 w w')
    (g2 : ∀ w, Calls Try.prog 39 #[.float .f64 b] w fun e w' => e = .returned (.int .u64 y) ∧ Drawn0 w w')
    (k1 : ∀ w, Calls Try.prog 43 #[.float .f64 a, .float .f64 b] w fun e w' => e = .returned (.int .i64 (1)) ∧ Below w.heap.size w w')
    (k2 : ∀ w, Calls Try.prog 43 #[.float .f64 b, .float .f64 c] w fun e w' => e = .returned (.int .i64 q) ∧ Below w.heap.size w w')
    (k3 : ∀ w, Calls Try.prog 43 #[.float .f64 a, .float .f64 c] w fun e w' => e = .returned (.int .i64 r) ∧ Below w.heap.size w w')
    (k4 : ∀ w, Calls Try.prog 43 #[.float .f64 b, .float .f64 a] w fun e w' => e = .returned (.int .i64 (-1)) ∧ Below w.heap.size w w')
    (d3 : (x == y) = false) (w : World) :
    Calls Try.prog 10 #[.int .u64 (a : Int), .int .u64 (b : Int), .int .u64 (c : Int)] w fun e w' => e = .returned (.bool true) ∧ Below w.heap.size w w' := by
  have hB := Below.refl w.heap.size w
  go_enter Try.func10, Try.ntmps10
  go_wp2_with (first | (go_at_call 37; (first | with_reducible refine (fa _).mono ?_ | with_reducible refine (fb _).mono ?_ | with_reducible refine (fc _).mono ?_); rintro e w' ⟨rfl, ⟨n1, rfl⟩⟩) | (go_at_call 38; refine (alive_calls _).mono ?_; rintro e w1 ⟨rfl, hb1⟩) | (go_at_call 39; (first | with_reducible refine (g1 _).mono ?_ | with_reducible refine (g2 _).mono ?_); rintro e w' ⟨rfl, ⟨n2, rfl⟩⟩) | (go_at_call 43; (first | (with_reducible refine (k1 _).mono ?_; rintro e w2 ⟨rfl, hb2⟩) | (with_reducible refine (k2 _).mono ?_; rintro e w3 ⟨rfl, hb3⟩) | (with_reducible refine (k3 _).mono ?_; rintro e w4 ⟨rfl, hb4⟩) | (with_reducible refine (k4 _).mono ?_; rintro e w5 ⟨rfl, hb5⟩))))
  have h1 := below_then (below_dn hB _) hb2
  have h2 := below_then h1 hb3
  have h3 := below_then h2 hb4
  have h4 := below_then h3 hb1
  have h5 := below_then h4 hb5
  go_ret
  exact ⟨rfl, by first | exact h5 | exact below_dn h5 _⟩

theorem order_eq_q (a b c : Nat) (q r : Int) (x y : Int)
    (fa : ∀ w, Calls Try.prog 37 #[.int .u64 (a : Int)] w fun e w' => e = .returned (.float .f64 a) ∧ Drawn0 w w')
    (fb : ∀ w, Calls Try.prog 37 #[.int .u64 (b : Int)] w fun e w' => e = .returned (.float .f64 b) ∧ Drawn0 w w')
    (fc : ∀ w, Calls Try.prog 37 #[.int .u64 (c : Int)] w fun e w' => e = .returned (.float .f64 c) ∧ Drawn0 w w')
    (g1 : ∀ w, Calls Try.prog 39 #[.float .f64 a] w fun e w' => e = .returned (.int .u64 x) ∧ Drawn0 w w')
    (g2 : ∀ w, Calls Try.prog 39 #[.float .f64 b] w fun e w' => e = .returned (.int .u64 y) ∧ Drawn0 w w')
    (k1 : ∀ w, Calls Try.prog 43 #[.float .f64 a, .float .f64 b] w fun e w' => e = .returned (.int .i64 (0)) ∧ Below w.heap.size w w')
    (k2 : ∀ w, Calls Try.prog 43 #[.float .f64 b, .float .f64 c] w fun e w' => e = .returned (.int .i64 q) ∧ Below w.heap.size w w')
    (k3 : ∀ w, Calls Try.prog 43 #[.float .f64 a, .float .f64 c] w fun e w' => e = .returned (.int .i64 r) ∧ Below w.heap.size w w')
    (k4 : ∀ w, Calls Try.prog 43 #[.float .f64 b, .float .f64 a] w fun e w' => e = .returned (.int .i64 (0)) ∧ Below w.heap.size w w')
    (d3 : (x == y) = true) (d1 : decide (q > 0) = true) (w : World) :
    Calls Try.prog 10 #[.int .u64 (a : Int), .int .u64 (b : Int), .int .u64 (c : Int)] w fun e w' => e = .returned (.bool true) ∧ Below w.heap.size w w' := by
  have hB := Below.refl w.heap.size w
  go_enter Try.func10, Try.ntmps10
  go_wp2_with (first | (go_at_call 37; (first | with_reducible refine (fa _).mono ?_ | with_reducible refine (fb _).mono ?_ | with_reducible refine (fc _).mono ?_); rintro e w' ⟨rfl, ⟨n1, rfl⟩⟩) | (go_at_call 38; refine (alive_calls _).mono ?_; rintro e w1 ⟨rfl, hb1⟩) | (go_at_call 39; (first | with_reducible refine (g1 _).mono ?_ | with_reducible refine (g2 _).mono ?_); rintro e w' ⟨rfl, ⟨n2, rfl⟩⟩) | (go_at_call 43; (first | (with_reducible refine (k1 _).mono ?_; rintro e w2 ⟨rfl, hb2⟩) | (with_reducible refine (k2 _).mono ?_; rintro e w3 ⟨rfl, hb3⟩) | (with_reducible refine (k3 _).mono ?_; rintro e w4 ⟨rfl, hb4⟩) | (with_reducible refine (k4 _).mono ?_; rintro e w5 ⟨rfl, hb5⟩))))
  have h1 := below_then (below_dn hB _) hb2
  have h2 := below_then h1 hb3
  have h3 := below_then h2 hb4
  have h4 := below_then h3 hb1
  have h5 := below_then h4 hb5
  go_ret
  exact ⟨rfl, by first | exact h5 | exact below_dn h5 _⟩

theorem order_eq_r (a b c : Nat) (q r : Int) (x y : Int)
    (fa : ∀ w, Calls Try.prog 37 #[.int .u64 (a : Int)] w fun e w' => e = .returned (.float .f64 a) ∧ Drawn0 w w')
    (fb : ∀ w, Calls Try.prog 37 #[.int .u64 (b : Int)] w fun e w' => e = .returned (.float .f64 b) ∧ Drawn0 w w')
    (fc : ∀ w, Calls Try.prog 37 #[.int .u64 (c : Int)] w fun e w' => e = .returned (.float .f64 c) ∧ Drawn0 w w')
    (g1 : ∀ w, Calls Try.prog 39 #[.float .f64 a] w fun e w' => e = .returned (.int .u64 x) ∧ Drawn0 w w')
    (g2 : ∀ w, Calls Try.prog 39 #[.float .f64 b] w fun e w' => e = .returned (.int .u64 y) ∧ Drawn0 w w')
    (k1 : ∀ w, Calls Try.prog 43 #[.float .f64 a, .float .f64 b] w fun e w' => e = .returned (.int .i64 (0)) ∧ Below w.heap.size w w')
    (k2 : ∀ w, Calls Try.prog 43 #[.float .f64 b, .float .f64 c] w fun e w' => e = .returned (.int .i64 q) ∧ Below w.heap.size w w')
    (k3 : ∀ w, Calls Try.prog 43 #[.float .f64 a, .float .f64 c] w fun e w' => e = .returned (.int .i64 r) ∧ Below w.heap.size w w')
    (k4 : ∀ w, Calls Try.prog 43 #[.float .f64 b, .float .f64 a] w fun e w' => e = .returned (.int .i64 (0)) ∧ Below w.heap.size w w')
    (d3 : (x == y) = true) (d1 : decide (q > 0) = false) (d2 : decide (r ≤ 0) = true) (w : World) :
    Calls Try.prog 10 #[.int .u64 (a : Int), .int .u64 (b : Int), .int .u64 (c : Int)] w fun e w' => e = .returned (.bool true) ∧ Below w.heap.size w w' := by
  have hB := Below.refl w.heap.size w
  go_enter Try.func10, Try.ntmps10
  go_wp2_with (first | (go_at_call 37; (first | with_reducible refine (fa _).mono ?_ | with_reducible refine (fb _).mono ?_ | with_reducible refine (fc _).mono ?_); rintro e w' ⟨rfl, ⟨n1, rfl⟩⟩) | (go_at_call 38; refine (alive_calls _).mono ?_; rintro e w1 ⟨rfl, hb1⟩) | (go_at_call 39; (first | with_reducible refine (g1 _).mono ?_ | with_reducible refine (g2 _).mono ?_); rintro e w' ⟨rfl, ⟨n2, rfl⟩⟩) | (go_at_call 43; (first | (with_reducible refine (k1 _).mono ?_; rintro e w2 ⟨rfl, hb2⟩) | (with_reducible refine (k2 _).mono ?_; rintro e w3 ⟨rfl, hb3⟩) | (with_reducible refine (k3 _).mono ?_; rintro e w4 ⟨rfl, hb4⟩) | (with_reducible refine (k4 _).mono ?_; rintro e w5 ⟨rfl, hb5⟩))))
  have h1 := below_then (below_dn hB _) hb2
  have h2 := below_then h1 hb3
  have h3 := below_then h2 hb4
  have h4 := below_then h3 hb1
  have h5 := below_then h4 hb5
  go_ret
  exact ⟨rfl, by first | exact h5 | exact below_dn h5 _⟩

theorem order_lt_q (a b c : Nat) (q r : Int) (x y : Int)
    (fa : ∀ w, Calls Try.prog 37 #[.int .u64 (a : Int)] w fun e w' => e = .returned (.float .f64 a) ∧ Drawn0 w w')
    (fb : ∀ w, Calls Try.prog 37 #[.int .u64 (b : Int)] w fun e w' => e = .returned (.float .f64 b) ∧ Drawn0 w w')
    (fc : ∀ w, Calls Try.prog 37 #[.int .u64 (c : Int)] w fun e w' => e = .returned (.float .f64 c) ∧ Drawn0 w w')
    (g1 : ∀ w, Calls Try.prog 39 #[.float .f64 a] w fun e w' => e = .returned (.int .u64 x) ∧ Drawn0 w w')
    (g2 : ∀ w, Calls Try.prog 39 #[.float .f64 b] w fun e w' => e = .returned (.int .u64 y) ∧ Drawn0 w w')
    (k1 : ∀ w, Calls Try.prog 43 #[.float .f64 a, .float .f64 b] w fun e w' => e = .returned (.int .i64 (-1)) ∧ Below w.heap.size w w')
    (k2 : ∀ w, Calls Try.prog 43 #[.float .f64 b, .float .f64 c] w fun e w' => e = .returned (.int .i64 q) ∧ Below w.heap.size w w')
    (k3 : ∀ w, Calls Try.prog 43 #[.float .f64 a, .float .f64 c] w fun e w' => e = .returned (.int .i64 r) ∧ Below w.heap.size w w')
    (k4 : ∀ w, Calls Try.prog 43 #[.float .f64 b, .float .f64 a] w fun e w' => e = .returned (.int .i64 (1)) ∧ Below w.heap.size w w')
    (d3 : (x == y) = false) (d1 : decide (q > 0) = true) (w : World) :
    Calls Try.prog 10 #[.int .u64 (a : Int), .int .u64 (b : Int), .int .u64 (c : Int)] w fun e w' => e = .returned (.bool true) ∧ Below w.heap.size w w' := by
  have hB := Below.refl w.heap.size w
  go_enter Try.func10, Try.ntmps10
  go_wp2_with (first | (go_at_call 37; (first | with_reducible refine (fa _).mono ?_ | with_reducible refine (fb _).mono ?_ | with_reducible refine (fc _).mono ?_); rintro e w' ⟨rfl, ⟨n1, rfl⟩⟩) | (go_at_call 38; refine (alive_calls _).mono ?_; rintro e w1 ⟨rfl, hb1⟩) | (go_at_call 39; (first | with_reducible refine (g1 _).mono ?_ | with_reducible refine (g2 _).mono ?_); rintro e w' ⟨rfl, ⟨n2, rfl⟩⟩) | (go_at_call 43; (first | (with_reducible refine (k1 _).mono ?_; rintro e w2 ⟨rfl, hb2⟩) | (with_reducible refine (k2 _).mono ?_; rintro e w3 ⟨rfl, hb3⟩) | (with_reducible refine (k3 _).mono ?_; rintro e w4 ⟨rfl, hb4⟩) | (with_reducible refine (k4 _).mono ?_; rintro e w5 ⟨rfl, hb5⟩))))
  have h1 := below_then (below_dn hB _) hb2
  have h2 := below_then h1 hb3
  have h3 := below_then h2 hb4
  have h4 := below_then h3 hb1
  have h5 := below_then h4 hb5
  go_ret
  exact ⟨rfl, by first | exact h5 | exact below_dn h5 _⟩

theorem order_lt_r (a b c : Nat) (q r : Int) (x y : Int)
    (fa : ∀ w, Calls Try.prog 37 #[.int .u64 (a : Int)] w fun e w' => e = .returned (.float .f64 a) ∧ Drawn0 w w')
    (fb : ∀ w, Calls Try.prog 37 #[.int .u64 (b : Int)] w fun e w' => e = .returned (.float .f64 b) ∧ Drawn0 w w')
    (fc : ∀ w, Calls Try.prog 37 #[.int .u64 (c : Int)] w fun e w' => e = .returned (.float .f64 c) ∧ Drawn0 w w')
    (g1 : ∀ w, Calls Try.prog 39 #[.float .f64 a] w fun e w' => e = .returned (.int .u64 x) ∧ Drawn0 w w')
    (g2 : ∀ w, Calls Try.prog 39 #[.float .f64 b] w fun e w' => e = .returned (.int .u64 y) ∧ Drawn0 w w')
    (k1 : ∀ w, Calls Try.prog 43 #[.float .f64 a, .float .f64 b] w fun e w' => e = .returned (.int .i64 (-1)) ∧ Below w.heap.size w w')
    (k2 : ∀ w, Calls Try.prog 43 #[.float .f64 b, .float .f64 c] w fun e w' => e = .returned (.int .i64 q) ∧ Below w.heap.size w w')
    (k3 : ∀ w, Calls Try.prog 43 #[.float .f64 a, .float .f64 c] w fun e w' => e = .returned (.int .i64 r) ∧ Below w.heap.size w w')
    (k4 : ∀ w, Calls Try.prog 43 #[.float .f64 b, .float .f64 a] w fun e w' => e = .returned (.int .i64 (1)) ∧ Below w.heap.size w w')
    (d3 : (x == y) = false) (d1 : decide (q > 0) = false) (d2 : decide (r ≤ 0) = true) (w : World) :
    Calls Try.prog 10 #[.int .u64 (a : Int), .int .u64 (b : Int), .int .u64 (c : Int)] w fun e w' => e = .returned (.bool true) ∧ Below w.heap.size w w' := by
  have hB := Below.refl w.heap.size w
  go_enter Try.func10, Try.ntmps10
  go_wp2_with (first | (go_at_call 37; (first | with_reducible refine (fa _).mono ?_ | with_reducible refine (fb _).mono ?_ | with_reducible refine (fc _).mono ?_); rintro e w' ⟨rfl, ⟨n1, rfl⟩⟩) | (go_at_call 38; refine (alive_calls _).mono ?_; rintro e w1 ⟨rfl, hb1⟩) | (go_at_call 39; (first | with_reducible refine (g1 _).mono ?_ | with_reducible refine (g2 _).mono ?_); rintro e w' ⟨rfl, ⟨n2, rfl⟩⟩) | (go_at_call 43; (first | (with_reducible refine (k1 _).mono ?_; rintro e w2 ⟨rfl, hb2⟩) | (with_reducible refine (k2 _).mono ?_; rintro e w3 ⟨rfl, hb3⟩) | (with_reducible refine (k3 _).mono ?_; rintro e w4 ⟨rfl, hb4⟩) | (with_reducible refine (k4 _).mono ?_; rintro e w5 ⟨rfl, hb5⟩))))
  have h1 := below_then (below_dn hB _) hb2
  have h2 := below_then h1 hb3
  have h3 := below_then h2 hb4
  have h4 := below_then h3 hb1
  have h5 := below_then h4 hb5
  go_ret
  exact ⟨rfl, by first | exact h5 | exact below_dn h5 _⟩

theorem gaugeOrder_nat (a b c : Nat) (ha : a < 18446744073709551616) (hb : b < 18446744073709551616) (hc : c < 18446744073709551616) (w : World) :
    Calls Try.prog 10 #[.int .u64 (a : Int), .int .u64 (b : Int), .int .u64 (c : Int)] w fun e w' => e = .returned (.bool true) ∧ Below w.heap.size w w' := by
  have f : ∀ n : Nat, ∀ w, Calls Try.prog 37 #[.int .u64 (n : Int)] w fun e w' => e = .returned (.float .f64 n) ∧ Drawn0 w w' := fun n w => of_lit _ _ (Int.toNat_natCast n) w
  have g1 : ∀ w, Calls Try.prog 39 #[.float .f64 a] w fun e w' => e = .returned (.int .u64 (bitsOf a)) ∧ Drawn0 w w' := bits_calls a ha
  have g2 : ∀ w, Calls Try.prog 39 #[.float .f64 b] w fun e w' => e = .returned (.int .u64 (bitsOf b)) ∧ Drawn0 w w' := bits_calls b hb
  have k1 := comp_calls a b ha hb
  have k2 := comp_calls b c hb hc
  have k3 := comp_calls a c ha hc
  have k4 := comp_calls b a hb ha
  have t := comp_trans a b c
  have e4 := comp_self_neg a b
  have ez := comp_bits ha hb
  rw [e4] at k4
  have s1 := comp_small a b
  generalize comp a b = p at *
  generalize comp b c = q at *
  generalize comp a c = r at *
  rcases s1 with rfl | rfl | rfl
  · have d3 : (bitsOf a == bitsOf b) = false := by rw [beq_eq_false_iff_ne]; intro h; exact absurd (ez.mpr h) (by decide)
    by_cases c1 : q > 0
    · exact order_lt_q a b c q r _ _ (f a) (f b) (f c) g1 g2 k1 k2 k3 k4 d3 (decide_eq_true c1) w
    · exact order_lt_r a b c q r _ _ (f a) (f b) (f c) g1 g2 k1 k2 k3 k4 d3 (decide_eq_false c1) (decide_eq_true (t (by decide) c1)) w
  · have d3 : (bitsOf a == bitsOf b) = true := by rw [beq_iff_eq]; exact ez.mp rfl
    by_cases c1 : q > 0
    · exact order_eq_q a b c q r _ _ (f a) (f b) (f c) g1 g2 k1 k2 k3 k4 d3 (decide_eq_true c1) w
    · exact order_eq_r a b c q r _ _ (f a) (f b) (f c) g1 g2 k1 k2 k3 k4 d3 (decide_eq_false c1) (decide_eq_true (t (by decide) c1)) w
  · have d3 : (bitsOf a == bitsOf b) = false := by rw [beq_eq_false_iff_ne]; intro h; exact absurd (ez.mpr h) (by decide)
    exact order_gt a b c q r _ _ (f a) (f b) (f c) g1 g2 k1 k2 k3 k4 d3 w

end Go.Proofs.Ytfkbcldeohblpaa.U
namespace Go.Proofs.Ytfkbcldeohblpaa
open Go.RowKit

theorem GaugeOrder_walk (a b c : Int) (wa : (Lit.int .u64 a).wf = true) (wb : (Lit.int .u64 b).wf = true) (wc : (Lit.int .u64 c).wf = true) (w : World) :
    Calls Try.prog 10 #[.int .u64 a, .int .u64 b, .int .u64 c] w fun e w' => e = .returned (.bool true) ∧ Below w.heap.size w w' := by
  obtain ⟨n, rfl, hn⟩ := u64_nat wa
  obtain ⟨m, rfl, hm⟩ := u64_nat wb
  obtain ⟨k, rfl, hk⟩ := u64_nat wc
  exact U.gaugeOrder_nat n m k hn hm hk w

end Go.Proofs.Ytfkbcldeohblpaa
