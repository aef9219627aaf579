/- GaugeNeeds: the law's function answers true for any rate, whole number and times. -/
import Derived.Test.YtfkbcldeohblpaaUN12
namespace Go.Proofs.Ytfkbcldeohblpaa.U
open Go.RowKit Go.Proofs.YtfkbcldeohblpaaW.PrintWords Go.Proofs.YtfkbcldeohblpaaW.PrintLast Go.Proofs.YtfkbcldeohblpaaW.PrintMore
set_option linter.unusedVariables false
set_option linter.unusedSimpArgs false

theorem gaugeNeeds_nat (a : Nat) (k n : Int) (ha : a < 18446744073709551616) (w : World) :
    Calls Try.prog 12 #[.int .u64 (a : Int), .int .i64 k, .int .i64 n] w fun e w' => e = .returned (.bool true) ∧ Below w.heap.size w w' := by
  have fa : ∀ w, Calls Try.prog 37 #[.int .u64 (a : Int)] w fun e w' => e = .returned (.float .f64 a) ∧ Drawn0 w w' := fun w => of_lit _ _ (Int.toNat_natCast a) w
  have h1 := need_calls a 1 ha
  have h2 := need_calls a 2 ha
  have h3 := floor_calls a ha
  have hot := once_twice a
  -- the second guard
  have S : ∀ (P : Prop), (decide (k < 0) = true → P) → (decide (k < 0) = false → decide (k > 1099511627776) = true → P) → (decide (k < 0) = false → decide (k > 1099511627776) = false → decide (n < 0) = true → P) →
      (decide (k < 0) = false → decide (k > 1099511627776) = false → decide (n < 0) = false → decide (n > 1000) = true → P) →
      (decide (k < 0) = false → decide (k > 1099511627776) = false → decide (n < 0) = false → decide (n > 1000) = false → ∀ (R : Nat) (m : Int), (∀ w, Calls Try.prog 49 #[.int .i64 k, .int .i64 1] w fun r w' => r = .returned (.float .f64 R) ∧ Drawn0 w w') →
        (∀ w, Calls Try.prog 47 #[.float .f64 R, .int .i64 n] w fun r w' => r = .returned (.tuple #[.int .i64 m, .int .i64 0]) ∧ Drawn0 w w') → wrap64 (k * n) = m → P) → P := by
    intro P p1 p2 p3 p4 p5
    by_cases c1 : k < 0
    · exact p1 (decide_eq_true c1)
    · by_cases c2 : k > 1099511627776
      · exact p2 (decide_eq_false c1) (decide_eq_true c2)
      · by_cases c3 : n < 0
        · exact p3 (decide_eq_false c1) (decide_eq_false c2) (decide_eq_true c3)
        · by_cases c4 : n > 1000
          · exact p4 (decide_eq_false c1) (decide_eq_false c2) (decide_eq_false c3) (decide_eq_true c4)
          · obtain ⟨K, rfl⟩ := Int.eq_ofNat_of_zero_le (show 0 ≤ k by omega)
            obtain ⟨N, rfl⟩ := Int.eq_ofNat_of_zero_le (show 0 ≤ n by omega)
            have hK : K ≤ 1099511627776 := by omega
            have hN : N ≤ 1000 := by omega
            obtain ⟨e1, e2⟩ := need_whole K N hK hN
            have hb : K * N ≤ 1099511627776 * 1000 := Nat.mul_le_mul hK hN
            have hn := need_calls (floatOfInt .f64 (K : Int)) (N : Int) e2
            rw [e1] at hn
            refine p5 (decide_eq_false c1) (decide_eq_false c2) (decide_eq_false c3) (decide_eq_false c4) _ _ (ratio_one_calls K hK) hn ?_
            rw [← Int.natCast_mul]
            generalize K * N = X at *
            unfold wrap64
            omega
  by_cases he : (gneed a 1).2 = 0
  · obtain ⟨K, L, hL, hK, e1, e3, e2⟩ := hot he
    rw [e1] at h1
    rw [e3] at h3
    have d3 : wrap64 ((K : Int) + 1) = (K : Int) + 1 := by clear h1 h2 h3 S; unfold wrap64; omega
    have d4 : wrap64 (2 * ((K + L : Nat) : Int)) = 2 * ((K + L : Nat) : Int) := by clear d3 h1 h2 h3 S; unfold wrap64; omega
    by_cases hz : L = 0
    · subst hz
      have d0 : ((((K + 0 : Nat) : Int)) != (K : Int)) = false := by rw [bne_eq_false_iff_eq]; rfl
      rcases e2 with e2 | ⟨T, e2, t1, t2, t3⟩
      · have d1 : ((gneed a 2).2 == 0) = false := by rw [e2]; rfl
        exact S _ (fun s0 => needs_v2_s1 a 0 k n _ _ _ 0 _ 0 0 fa h1 h2 h3 d0 d1 s0 w) (fun s0 s1 => needs_v2_s2 a 0 k n _ _ _ 0 _ 0 0 fa h1 h2 h3 d0 d1 s0 s1 w) (fun s0 s1 s2 => needs_v2_s3 a 0 k n _ _ _ 0 _ 0 0 fa h1 h2 h3 d0 d1 s0 s1 s2 w)
          (fun s0 s1 s2 s3 => needs_v2_s4 a 0 k n _ _ _ 0 _ 0 0 fa h1 h2 h3 d0 d1 s0 s1 s2 s3 w) (fun s0 s1 s2 s3 R m hr hn hm => needs_v2_s5 a R k n _ _ _ 0 _ 0 m fa h1 h2 h3 d0 d1 s0 s1 s2 s3 hr hn hm w)
      · rw [e2] at h2
        have d1 : decide ((T : Int) > wrap64 (2 * ((K + 0 : Nat) : Int))) = false := decide_eq_false (by rw [d4]; omega)
        have d2 : decide ((T : Int) < ((K + 0 : Nat) : Int)) = false := decide_eq_false (by omega)
        exact S _ (fun s0 => needs_v3_s1 a 0 k n _ _ _ 0 0 0 0 fa h1 h2 h3 d0 d1 d2 s0 w) (fun s0 s1 => needs_v3_s2 a 0 k n _ _ _ 0 0 0 0 fa h1 h2 h3 d0 d1 d2 s0 s1 w) (fun s0 s1 s2 => needs_v3_s3 a 0 k n _ _ _ 0 0 0 0 fa h1 h2 h3 d0 d1 d2 s0 s1 s2 w)
          (fun s0 s1 s2 s3 => needs_v3_s4 a 0 k n _ _ _ 0 0 0 0 fa h1 h2 h3 d0 d1 d2 s0 s1 s2 s3 w) (fun s0 s1 s2 s3 R m hr hn hm => needs_v3_s5 a R k n _ _ _ 0 0 0 m fa h1 h2 h3 d0 d1 d2 s0 s1 s2 s3 hr hn hm w)
    · have d0 : ((((K + L : Nat) : Int)) != (K : Int)) = true := by rw [bne_iff_ne]; omega
      have d5 : ((((K + L : Nat) : Int)) != wrap64 ((K : Int) + 1)) = false := by rw [d3, bne_eq_false_iff_eq]; omega
      rcases e2 with e2 | ⟨T, e2, t1, t2, t3⟩
      · have d1 : ((gneed a 2).2 == 0) = false := by rw [e2]; rfl
        exact S _ (fun s0 => needs_v4_s1 a 0 k n _ _ _ 0 _ 0 0 fa h1 h2 h3 d0 d5 d1 s0 w) (fun s0 s1 => needs_v4_s2 a 0 k n _ _ _ 0 _ 0 0 fa h1 h2 h3 d0 d5 d1 s0 s1 w) (fun s0 s1 s2 => needs_v4_s3 a 0 k n _ _ _ 0 _ 0 0 fa h1 h2 h3 d0 d5 d1 s0 s1 s2 w)
          (fun s0 s1 s2 s3 => needs_v4_s4 a 0 k n _ _ _ 0 _ 0 0 fa h1 h2 h3 d0 d5 d1 s0 s1 s2 s3 w) (fun s0 s1 s2 s3 R m hr hn hm => needs_v4_s5 a R k n _ _ _ 0 _ 0 m fa h1 h2 h3 d0 d5 d1 s0 s1 s2 s3 hr hn hm w)
      · rw [e2] at h2
        have d1 : decide ((T : Int) > wrap64 (2 * ((K + L : Nat) : Int))) = false := decide_eq_false (by rw [d4]; omega)
        have d2 : decide ((T : Int) < ((K + L : Nat) : Int)) = false := decide_eq_false (by omega)
        exact S _ (fun s0 => needs_v5_s1 a 0 k n _ _ _ 0 0 0 0 fa h1 h2 h3 d0 d5 d1 d2 s0 w) (fun s0 s1 => needs_v5_s2 a 0 k n _ _ _ 0 0 0 0 fa h1 h2 h3 d0 d5 d1 d2 s0 s1 w) (fun s0 s1 s2 => needs_v5_s3 a 0 k n _ _ _ 0 0 0 0 fa h1 h2 h3 d0 d5 d1 d2 s0 s1 s2 w)
          (fun s0 s1 s2 s3 => needs_v5_s4 a 0 k n _ _ _ 0 0 0 0 fa h1 h2 h3 d0 d5 d1 d2 s0 s1 s2 s3 w) (fun s0 s1 s2 s3 R m hr hn hm => needs_v5_s5 a R k n _ _ _ 0 0 0 m fa h1 h2 h3 d0 d5 d1 d2 s0 s1 s2 s3 hr hn hm w)
  · have d0 : ((gneed a 1).2 == 0) = false := by rw [beq_eq_false_iff_ne]; exact he
    exact S _ (fun s0 => needs_v1_s1 a 0 k n _ _ _ _ _ _ 0 fa h1 h2 h3 d0 s0 w) (fun s0 s1 => needs_v1_s2 a 0 k n _ _ _ _ _ _ 0 fa h1 h2 h3 d0 s0 s1 w) (fun s0 s1 s2 => needs_v1_s3 a 0 k n _ _ _ _ _ _ 0 fa h1 h2 h3 d0 s0 s1 s2 w)
      (fun s0 s1 s2 s3 => needs_v1_s4 a 0 k n _ _ _ _ _ _ 0 fa h1 h2 h3 d0 s0 s1 s2 s3 w) (fun s0 s1 s2 s3 R m hr hn hm => needs_v1_s5 a R k n _ _ _ _ _ _ m fa h1 h2 h3 d0 s0 s1 s2 s3 hr hn hm w)

end Go.Proofs.Ytfkbcldeohblpaa.U
namespace Go.Proofs.Ytfkbcldeohblpaa
open Go.RowKit
set_option linter.unusedVariables false

theorem GaugeNeeds_walk (a k n : Int) (wa : (Lit.int .u64 a).wf = true) (wk : (Lit.int .i64 k).wf = true) (wn : (Lit.int .i64 n).wf = true) (w : World) :
    Calls Try.prog 12 #[.int .u64 a, .int .i64 k, .int .i64 n] w fun e w' => e = .returned (.bool true) ∧ Below w.heap.size w w' := by
  obtain ⟨m, rfl, hm⟩ := u64_nat wa
  exact U.gaugeNeeds_nat m k n hm w

end Go.Proofs.Ytfkbcldeohblpaa
