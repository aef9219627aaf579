/- GaugeRatios: the law's function answers true for any two whole numbers. -/
import Derived.Test.YtfkbcldeohblpaaURatioWalk
namespace Go.Proofs.Ytfkbcldeohblpaa.U
open Go.RowKit Go.Proofs.YtfkbcldeohblpaaW.PrintWords Go.Proofs.YtfkbcldeohblpaaW.PrintLast Go.Proofs.YtfkbcldeohblpaaW.PrintMore
set_option linter.unusedVariables false
set_option linter.unusedSimpArgs false

theorem of_zero (w : World) : Calls Try.prog 37 #[.int .u64 0] w fun e w' => e = .returned (.float .f64 0) ∧ Drawn0 w w' := of_lit 0 0 rfl w

theorem gaugeRatios_calls (a b : Int) (w : World) :
    Calls Try.prog 11 #[.int .i64 a, .int .i64 b] w fun e w' => e = .returned (.bool true) ∧ Below w.heap.size w w' := by
  by_cases c0 : a > 1048576
  · exact ratios_g0 a b (decide_eq_true c0) w
  by_cases c1 : a < -1048576
  · exact ratios_g1 a b (decide_eq_false c0) (decide_eq_true c1) w
  by_cases c2 : b > 1048576
  · exact ratios_g2 a b (decide_eq_false c0) (decide_eq_false c1) (decide_eq_true c2) w
  by_cases c3 : b < -1048576
  · exact ratios_g3 a b (decide_eq_false c0) (decide_eq_false c1) (decide_eq_false c2) (decide_eq_true c3) w
  have s0 := decide_eq_false c0
  have s1 := decide_eq_false c1
  have s2 := decide_eq_false c2
  have s3 := decide_eq_false c3
  have ha : a.natAbs ≤ 1048576 := by omega
  have hb : b.natAbs ≤ 1048576 := by omega
  by_cases zb : b = 0
  · subst zb
    by_cases za : a = 0
    · subst za
      exact ratios_nan w
    · obtain ⟨r, q, hr, hk, hd⟩ := ratio_inf a ha za
      have k := kind_calls r hr
      rw [hk] at k
      exact ratios_inf a (comp r 0) r s0 s1 (by rw [beq_eq_false_iff_ne]; exact za) (ratio_calls a 0 r q) k of_zero (fun w => comp_calls r 0 hr (by omega) w) hd w
  · obtain ⟨r, q, hr, hf, hd⟩ := ratio_tells a b ha hb zb
    have f := floor_calls r hr
    rw [hf] at f
    have nb : (b == 0) = false := by rw [beq_eq_false_iff_ne]; exact zb
    have hl := Int.natAbs_tdiv_le_natAbs a b
    have hq : wrap64 (Int.tdiv a b) = Int.tdiv a b := by
      generalize Int.tdiv a b = x at *
      unfold wrap64
      omega
    by_cases za : a = 0
    · subst za
      have hd0 : downQuot 0 b = 0 := by unfold downQuot; simp
      rw [hd0] at f
      refine ratios_zero b (comp r 0) r s2 s3 nb (ratio_calls 0 b r q) f ?_ ?_ of_zero (fun w => comp_calls r 0 hr (by omega) w) (hd rfl) w
      · rw [hq]; simp
      · simp
    · have na : (a != 0) = true := by rw [bne_iff_ne]; exact za
      by_cases hm : Int.tmod a b = 0
      · have e : downQuot a b = Int.tdiv a b := by unfold downQuot; rw [if_neg (fun h => h.1 hm)]
        rw [e] at f
        exact ratios_even a b _ r s0 s1 s2 s3 nb na (ratio_calls a b r q) f hq (by rw [bne_eq_false_iff_eq]; exact hm) w
      · have m : (Int.tmod a b != 0) = true := by rw [bne_iff_ne]; exact hm
        have hs : wrap64 (Int.tdiv a b - 1) = Int.tdiv a b - 1 := by
          generalize Int.tdiv a b = x at *
          unfold wrap64
          omega
        by_cases sa : a < 0
        · by_cases sb : b < 0
          · have e : downQuot a b = Int.tdiv a b := by
              unfold downQuot
              rw [decide_eq_true sa, decide_eq_true sb, if_neg (fun h => h.2 rfl)]
            rw [e] at f
            exact ratios_odd_true a b _ r s0 s1 s2 s3 nb na (ratio_calls a b r q) f hq m (decide_eq_true sa) (decide_eq_true sb) w
          · have e : downQuot a b = Int.tdiv a b - 1 := by
              unfold downQuot
              rw [decide_eq_true sa, decide_eq_false sb, if_pos ⟨hm, by decide⟩]
            rw [e] at f
            exact ratios_less_true a b _ _ r s0 s1 s2 s3 nb na (ratio_calls a b r q) f hq m (decide_eq_true sa) (decide_eq_false sb) hs w
        · by_cases sb : b < 0
          · have e : downQuot a b = Int.tdiv a b - 1 := by
              unfold downQuot
              rw [decide_eq_false sa, decide_eq_true sb, if_pos ⟨hm, by decide⟩]
            rw [e] at f
            exact ratios_less_false a b _ _ r s0 s1 s2 s3 nb na (ratio_calls a b r q) f hq m (decide_eq_false sa) (decide_eq_true sb) hs w
          · have e : downQuot a b = Int.tdiv a b := by
              unfold downQuot
              rw [decide_eq_false sa, decide_eq_false sb, if_neg (fun h => h.2 rfl)]
            rw [e] at f
            exact ratios_odd_false a b _ r s0 s1 s2 s3 nb na (ratio_calls a b r q) f hq m (decide_eq_false sa) (decide_eq_false sb) w

end Go.Proofs.Ytfkbcldeohblpaa.U
namespace Go.Proofs.Ytfkbcldeohblpaa
open Go.RowKit
set_option linter.unusedVariables false

theorem GaugeRatios_walk (a b : Int) (wa : (Lit.int .i64 a).wf = true) (wb : (Lit.int .i64 b).wf = true) (w : World) :
    Calls Try.prog 11 #[.int .i64 a, .int .i64 b] w fun e w' => e = .returned (.bool true) ∧ Below w.heap.size w w' :=
  U.gaugeRatios_calls a b w

end Go.Proofs.Ytfkbcldeohblpaa
