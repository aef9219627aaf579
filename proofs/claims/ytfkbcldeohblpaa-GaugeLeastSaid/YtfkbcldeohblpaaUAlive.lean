/- oakumlaw01.alive: its answer is true. -/
import Derived.Test.YtfkbcldeohblpaaUNeed
import Derived.Test.YtfkbcldeohblpaaUComp
namespace Go.Proofs.Ytfkbcldeohblpaa.U
open Go.RowKit Go.Proofs.YtfkbcldeohblpaaW.PrintWords Go.Proofs.YtfkbcldeohblpaaW.PrintLast Go.Proofs.YtfkbcldeohblpaaW.PrintMore
set_option linter.unusedVariables false
set_option linter.unusedSimpArgs false

theorem v_need : gneed 4602678819172646912 3 = (2, 0) := by decide +kernel
theorem v_floor : gfloor 13826050856027422720 = (-1, 0) := by decide +kernel
theorem v_inf : gfloor 9218868437227405312 = (0, 2) := by decide +kernel
theorem v_comp : comp 9223372036854775808 0 = -1 := by decide +kernel
theorem v_kind : kind 9223372036854775808 = 2 := by decide +kernel
theorem v_bits : (if isNaN 4602678819172646912 = true then 9221120237041090560 else ((4602678819172646912 : Nat) : Int)) = 4602678819172646912 := by decide +kernel

theorem of_lit (n : Int) (b : Nat) (h : n.toNat = b) (w : World) : Calls Try.prog 37 #[.int .u64 n] w fun e w' => e = .returned (.float .f64 b) ∧ Drawn0 w w' := by
  subst h; exact of_calls n w

set_option maxHeartbeats 8000000
set_option maxRecDepth 100000
theorem alive_calls (w : World) : Calls Try.prog 38 #[] w fun e w' => e = .returned (.bool true) ∧ Below w.heap.size w w' := by
  have hB := Below.refl w.heap.size w
  go_enter Try.func38, Try.ntmps38
  go_wp2_with (first
    | (go_at_call 37; refine (of_calls _ _).mono ?_; rintro e w' ⟨rfl, ⟨n1, rfl⟩⟩)
    | (go_at_call 47; refine (need_calls _ _ (by omega) _).mono ?_; rw [v_need]; rintro e w' ⟨rfl, ⟨n1, rfl⟩⟩)
    | (go_at_call 45; refine (floor_calls _ (by omega) _).mono ?_; (first | rw [v_floor] | rw [v_inf]); rintro e w' ⟨rfl, ⟨n1, rfl⟩⟩)
    | (go_at_call 43; refine (comp_calls _ _ (by omega) (by omega) _).mono ?_; rw [v_comp]; rintro e w' ⟨rfl, hb⟩)
    | (go_at_call 41; refine (kind_calls _ (by omega) _).mono ?_; rw [v_kind]; rintro e w' ⟨rfl, ⟨n1, rfl⟩⟩)
    | (go_at_call 39; refine (bits_calls _ (by omega) _).mono ?_; rw [v_bits]; rintro e w' ⟨rfl, ⟨n1, rfl⟩⟩))
  go_ret
  exact ⟨rfl, below_dn (Below.trans (below_dn hB _) hb) _⟩

end Go.Proofs.Ytfkbcldeohblpaa.U
