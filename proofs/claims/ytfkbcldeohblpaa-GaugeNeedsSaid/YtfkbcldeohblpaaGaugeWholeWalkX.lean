/- GaugeWhole: the law's function answers true for any number and any times. -/
import Derived.Test.YtfkbcldeohblpaaUN48
import Derived.Test.YtfkbcldeohblpaaGaugeTellsWalkX
namespace Go.Proofs.Ytfkbcldeohblpaa.U
open Go.RowKit Go.Proofs.YtfkbcldeohblpaaW.PrintWords Go.Proofs.YtfkbcldeohblpaaW.PrintLast Go.Proofs.YtfkbcldeohblpaaW.PrintMore
set_option linter.unusedVariables false
set_option linter.unusedSimpArgs false

/-- The document's Need where its guard lets in, under two of the ways to the guard's end. -/
theorem gneed_good (b N : Nat) (hg : rung b < 9218868437227405312) (hm : minus b = false ∨ rung b = 0) (hN : N ≤ 1000) :
    gneed b N = if 4611686018427387904 ≤ wholeN (rung b) N then ((0, 2) : Int × Int) else (((wholeN (rung b) N + (leftN (rung b) N).toNat : Nat) : Int), 0) := by
  unfold gneed
  rw [if_neg, Int.toNat_natCast]
  rintro (h | h | h | h)
  · omega
  · rcases hm with hm | hm
    · rw [hm] at h; simp at h
    · exact h.2 hm
  · omega
  · omega

theorem gneed_bad (b : Nat) (n : Int) (h : 9218868437227405312 ≤ rung b ∨ (minus b = true ∧ rung b ≠ 0) ∨ n < 0 ∨ n > 1000) : gneed b n = (0, 1) := by
  unfold gneed; rw [if_pos h]

theorem whole74 (b N : Nat) (hN : N ≤ 1000) (w : World) :
    Calls Try.prog 74 #[.int .u64 ((mag (rung b) * N : Nat) : Int), .int .i64 ((-1074 : Int) + ((place (rung b) : Nat) : Int))] w fun r w' =>
      r = .returned (.tuple #[.int .i64 (if 4611686018427387904 ≤ wholeN (rung b) N then 0 else ((wholeN (rung b) N : Nat) : Int)), .bool (if 4611686018427387904 ≤ wholeN (rung b) N then false else leftN (rung b) N), .bool (if 4611686018427387904 ≤ wholeN (rung b) N then false else true)]) ∧ Drawn0 w w' := by
  have hM := mag_lt (rung b)
  have hP : place (rung b) ≤ 2046 := by have := rung_le b; unfold place; split <;> omega
  have hX1 : mag (rung b) * N < 9223372036854775808 := by
    have h1 := Nat.mul_le_mul (Nat.le_of_lt_succ (show mag (rung b) < 9007199254740991 + 1 by omega)) hN
    omega
  have e3 : mag (rung b) * N * 2 ^ place (rung b) = val (rung b) * N := by rw [val_eq, Nat.mul_assoc, Nat.mul_comm N, ← Nat.mul_assoc]
  refine oakumref01_whole.calls 3000 _ _ _ _ _ w ?_
  rw [ref_whole _ _ hX1 hP, e3]
  change some (if 4611686018427387904 ≤ wholeN (rung b) N then ((0 : Int), false, false) else (((wholeN (rung b) N : Nat) : Int), leftN (rung b) N, true)) = _
  split <;> rfl

theorem need48_calls (b : Nat) (n : Int) (hb : b < 18446744073709551616) (w : World) :
    Calls Try.prog 48 #[.int .u64 (b : Int), .int .i64 n] w fun e w' => e = .returned (.tuple #[.int .i64 (gneed b n).1, .int .i64 (gneed b n).2]) ∧ Drawn0 w w' := by
  have hk : ∀ w, Calls Try.prog 42 #[.int .u64 (b : Int)] w fun r w' => r = .returned (.int .i64 (kind b)) ∧ Drawn0 w w' := fun w => oakumref01_Kind.calls 2 _ _ w (ref_kind b hb)
  have hm : ∀ w, Calls Try.prog 71 #[.int .u64 (b : Int)] w fun r w' => r = .returned (.bool (minus b)) ∧ Drawn0 w w' := fun w => oakumref01_Minus.calls _ _ w (minus_f b)
  have hp : ∀ w, Calls Try.prog 73 #[.int .u64 (b : Int)] w fun r w' => r = .returned (.tuple #[.int .u64 ((mag (rung b) : Nat) : Int), .int .i64 ((-1074 : Int) + ((place (rung b) : Nat) : Int))]) ∧ Drawn0 w w' := fun w => oakumref01_parts.calls _ _ _ w (ref_parts b hb)
  have hbad := kind_bad b
  have hz := kind_zero b
  by_cases c : 9218868437227405312 ≤ rung b
  · rw [gneed_bad b n (Or.inl c)]
    rcases hbad.mpr c with h | h
    · rw [h] at hk
      exact need48_nan b 0 _ n 0 0 0 0 0 hk hm w
    · rw [h] at hk
      exact need48_inf b 0 _ n 0 0 0 0 0 hk hm w
  · have k0 : (kind b == 0) = false := by rw [beq_eq_false_iff_ne]; exact fun h => c (hbad.mp (Or.inl h))
    have k1 : (kind b == 1) = false := by rw [beq_eq_false_iff_ne]; exact fun h => c (hbad.mp (Or.inr h))
    have arith : ∀ N : Nat, N ≤ 1000 → IntKind.u64.wrap (((mag (rung b) : Nat) : Int) * IntKind.u64.wrap (N : Int)) = ((mag (rung b) * N : Nat) : Int) := by
      intro N hN
      have hM := mag_lt (rung b)
      have h1 := Nat.mul_le_mul (Nat.le_of_lt_succ (show mag (rung b) < 9007199254740991 + 1 by omega)) hN
      rw [u64_wrap (show N < 18446744073709551616 by omega), ← Int.natCast_mul, u64_wrap (by omega)]
    have hw := whole74 b
    cases hmb : minus b
    · rw [hmb] at hm
      by_cases n0 : n < 0
      · rw [gneed_bad b n (Or.inr (Or.inr (Or.inl n0)))]
        exact need48_p_neg b 0 n _ 0 0 0 0 hk hm k0 k1 (decide_eq_true n0) w
      · by_cases n1 : n > 1000
        · rw [gneed_bad b n (Or.inr (Or.inr (Or.inr n1)))]
          exact need48_p_big b 0 n _ 0 0 0 0 hk hm k0 k1 (decide_eq_false n0) (decide_eq_true n1) w
        · obtain ⟨N, rfl⟩ := Int.eq_ofNat_of_zero_le (show 0 ≤ n by omega)
          rw [gneed_good b N (by omega) (Or.inl hmb) (by omega)]
          by_cases zN : N = 0
          · subst zN
            have e1 : wholeN (rung b) 0 = 0 := by unfold wholeN; rw [Nat.mul_zero, Nat.zero_div]
            have e2 : leftN (rung b) 0 = false := by unfold leftN; rw [Nat.mul_zero, Nat.zero_mod]; rfl
            rw [e1, e2]
            exact need48_p_zero b 0 0 _ 0 0 0 0 hk hm k0 k1 w
          · have hX := arith N (by omega)
            have hw := hw N (by omega)
            have c0 : decide ((N : Int) < 0) = false := decide_eq_false (by omega)
            have c1 : decide ((1000 : Int) < (N : Int)) = false := decide_eq_false (by omega)
            have c2 : ((N : Int) == 0) = false := by rw [beq_eq_false_iff_ne]; omega
            clear arith
            by_cases big : 4611686018427387904 ≤ wholeN (rung b) N
            · simp only [if_pos big] at hw ⊢
              exact need48_p_none b N 0 _ _ _ _ _ hk hm k0 k1 c0 c1 c2 hp hX hw w
            · simp only [if_neg big] at hw ⊢
              cases hl : leftN (rung b) N
              · rw [hl] at hw
                exact need48_p_even b N 0 _ _ _ _ _ hk hm k0 k1 c0 c1 c2 hp hX hw w
              · rw [hl] at hw
                have := need48_p_left b N 0 _ _ _ _ _ hk hm k0 k1 c0 c1 c2 hp hX hw w
                have w1 : wrap64 (((wholeN (rung b) N : Nat) : Int) + 1) = ((wholeN (rung b) N + 1 : Nat) : Int) := by clear hX this; generalize wholeN (rung b) N = K at *; unfold wrap64; omega
                rw [w1] at this
                exact this
    · rw [hmb] at hm
      by_cases z : rung b = 0
      · rw [hz.mpr z] at hk
        by_cases n0 : n < 0
        · rw [gneed_bad b n (Or.inr (Or.inr (Or.inl n0)))]
          exact need48_z_neg b 0 n 0 0 0 0 0 hk hm (decide_eq_true n0) w
        · by_cases n1 : n > 1000
          · rw [gneed_bad b n (Or.inr (Or.inr (Or.inr n1)))]
            exact need48_z_big b 0 n 0 0 0 0 0 hk hm (decide_eq_false n0) (decide_eq_true n1) w
          · obtain ⟨N, rfl⟩ := Int.eq_ofNat_of_zero_le (show 0 ≤ n by omega)
            rw [gneed_good b N (by omega) (Or.inr z) (by omega)]
            by_cases zN : N = 0
            · subst zN
              have e1 : wholeN (rung b) 0 = 0 := by unfold wholeN; rw [Nat.mul_zero, Nat.zero_div]
              have e2 : leftN (rung b) 0 = false := by unfold leftN; rw [Nat.mul_zero, Nat.zero_mod]; rfl
              rw [e1, e2]
              exact need48_z_zero b 0 0 0 0 0 0 0 hk hm w
            · have hX := arith N (by omega)
              have hw := hw N (by omega)
              have c0 : decide ((N : Int) < 0) = false := decide_eq_false (by omega)
              have c1 : decide ((1000 : Int) < (N : Int)) = false := decide_eq_false (by omega)
              have c2 : ((N : Int) == 0) = false := by rw [beq_eq_false_iff_ne]; omega
              clear arith
              by_cases big : 4611686018427387904 ≤ wholeN (rung b) N
              · simp only [if_pos big] at hw ⊢
                exact need48_z_none b N 0 0 _ _ _ _ hk hm c0 c1 c2 hp hX hw w
              · simp only [if_neg big] at hw ⊢
                cases hl : leftN (rung b) N
                · rw [hl] at hw
                  exact need48_z_even b N 0 0 _ _ _ _ hk hm c0 c1 c2 hp hX hw w
                · rw [hl] at hw
                  have := need48_z_left b N 0 0 _ _ _ _ hk hm c0 c1 c2 hp hX hw w
                  have w1 : wrap64 (((wholeN (rung b) N : Nat) : Int) + 1) = ((wholeN (rung b) N + 1 : Nat) : Int) := by clear hX this; generalize wholeN (rung b) N = K at *; unfold wrap64; omega
                  rw [w1] at this
                  exact this
      · rw [gneed_bad b n (Or.inr (Or.inl ⟨hmb, z⟩))]
        have k2 : (kind b == 2) = false := by rw [beq_eq_false_iff_ne]; exact fun h => z (hz.mp h)
        exact need48_minus b 0 n _ 0 0 0 0 hk hm k0 k1 k2 (by rw [bne, k2]; rfl) w

set_option maxHeartbeats 8000000
set_option maxRecDepth 100000
theorem gaugeWhole_nat (a : Nat) (n : Int) (ha : a < 18446744073709551616) (w : World) :
    Calls Try.prog 9 #[.int .u64 (a : Int), .int .i64 n] w fun e w' => e = .returned (.bool true) ∧ Below w.heap.size w w' := by
  have hB := Below.refl w.heap.size w
  have fa : ∀ w, Calls Try.prog 37 #[.int .u64 (a : Int)] w fun e w' => e = .returned (.float .f64 a) ∧ Drawn0 w w' := fun w => of_lit _ _ (Int.toNat_natCast a) w
  have g1 := floor_calls a ha
  have g2 : ∀ w, Calls Try.prog 46 #[.int .u64 (a : Int)] w fun e w' => e = .returned (.tuple #[.int .i64 (gfloor a).1, .int .i64 (gfloor a).2]) ∧ Drawn0 w w' := fun w => oakumref01_Floor.calls (3000 + 1) _ _ _ w (ref_floor a 3000 rfl ha)
  have g3 := need_calls a n ha
  have g4 := need48_calls a n ha
  generalize (gfloor a).1 = F at *
  generalize (gfloor a).2 = F2 at *
  generalize (gneed a n).1 = G at *
  generalize (gneed a n).2 = G2 at *
  clear ha
  go_enter Try.func9, Try.ntmps9
  go_wp2_with (first | (go_at_call 37; refine (fa _).mono ?_; rintro e w' ⟨rfl, ⟨n1, rfl⟩⟩) | (go_at_call 38; refine (alive_calls _).mono ?_; rintro e w1 ⟨rfl, hb1⟩) | (go_at_call 45; refine (g1 _).mono ?_; rintro e w' ⟨rfl, ⟨n2, rfl⟩⟩) | (go_at_call 46; refine (g2 _).mono ?_; rintro e w' ⟨rfl, ⟨n3, rfl⟩⟩) | (go_at_call 47; refine (g3 _).mono ?_; rintro e w' ⟨rfl, ⟨n4, rfl⟩⟩) | (go_at_call 48; refine (g4 _).mono ?_; rintro e w' ⟨rfl, ⟨n5, rfl⟩⟩))
  have h1 := below_then (below_dn hB _) hb1
  go_ret
  exact ⟨rfl, by first | exact h1 | exact below_dn h1 _⟩

end Go.Proofs.Ytfkbcldeohblpaa.U
namespace Go.Proofs.Ytfkbcldeohblpaa
open Go.RowKit
set_option linter.unusedVariables false

theorem GaugeWhole_walk (a n : Int) (wa : (Lit.int .u64 a).wf = true) (wn : (Lit.int .i64 n).wf = true) (w : World) :
    Calls Try.prog 9 #[.int .u64 a, .int .i64 n] w fun e w' => e = .returned (.bool true) ∧ Below w.heap.size w w' := by
  obtain ⟨m, rfl, hm⟩ := u64_nat wa
  exact U.gaugeWhole_nat m n hm w

end Go.Proofs.Ytfkbcldeohblpaa
