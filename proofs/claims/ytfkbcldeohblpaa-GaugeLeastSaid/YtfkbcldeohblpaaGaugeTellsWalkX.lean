/- GaugeTells: the law's function answers true for any two numbers. -/
import Derived.Test.YtfkbcldeohblpaaURank
import Derived.Test.YtfkbcldeohblpaaUAlive
namespace Go.Proofs.Ytfkbcldeohblpaa.U
open Go.RowKit Go.Proofs.YtfkbcldeohblpaaW.PrintWords Go.Proofs.YtfkbcldeohblpaaW.PrintLast Go.Proofs.YtfkbcldeohblpaaW.PrintMore
set_option linter.unusedVariables false
set_option linter.unusedSimpArgs false

theorem below_then {a w w' : World} (h : Below a.heap.size a w) (k : Below w.heap.size w w') : Below a.heap.size a w' := h.trans (k.mono h.size)

set_option maxHeartbeats 8000000
set_option maxRecDepth 100000
theorem gaugeTells_nat (a b : Nat) (ha : a < 18446744073709551616) (hb : b < 18446744073709551616) (w : World) :
    Calls Try.prog 8 #[.int .u64 (a : Int), .int .u64 (b : Int)] w fun e w' => e = .returned (.bool true) ∧ Below w.heap.size w w' := by
  have hB := Below.refl w.heap.size w
  have fa : ∀ w, Calls Try.prog 37 #[.int .u64 (a : Int)] w fun e w' => e = .returned (.float .f64 a) ∧ Drawn0 w w' := fun w => of_lit _ _ (Int.toNat_natCast a) w
  have fb : ∀ w, Calls Try.prog 37 #[.int .u64 (b : Int)] w fun e w' => e = .returned (.float .f64 b) ∧ Drawn0 w w' := fun w => of_lit _ _ (Int.toNat_natCast b) w
  have g1 : ∀ w, Calls Try.prog 39 #[.float .f64 a] w fun e w' => e = .returned (.int .u64 (bitsOf a)) ∧ Drawn0 w w' := bits_calls a ha
  have g2 : ∀ w, Calls Try.prog 40 #[.int .u64 (a : Int)] w fun e w' => e = .returned (.int .u64 (bitsOf a)) ∧ Drawn0 w w' := fun w => oakumref01_Bits.calls 2 _ _ w (ref_bits a ha)
  have g3 : ∀ w, Calls Try.prog 41 #[.float .f64 a] w fun e w' => e = .returned (.int .i64 (kind a)) ∧ Drawn0 w w' := kind_calls a ha
  have g4 : ∀ w, Calls Try.prog 42 #[.int .u64 (a : Int)] w fun e w' => e = .returned (.int .i64 (kind a)) ∧ Drawn0 w w' := fun w => oakumref01_Kind.calls 2 _ _ w (ref_kind a ha)
  have g5 := comp_calls a b ha hb
  have g6 : ∀ w, Calls Try.prog 44 #[.int .u64 (a : Int), .int .u64 (b : Int)] w fun e w' => e = .returned (.int .i64 (comp a b)) ∧ Below w.heap.size w w' := fun w => (oakumref01_Compare.calls 2 _ _ _ w (ref_comp a b ha hb)).mono (fun e w' h => ⟨h.1, by first | exact h.2 | exact h.2.below⟩)
  generalize bitsOf a = B at *
  generalize kind a = K at *
  generalize comp a b = C at *
  clear ha hb
  go_enter Try.func8, Try.ntmps8
  go_wp2_with (first
    | (go_at_call 37; (first | refine (fa _).mono ?_ | refine (fb _).mono ?_); rintro e w' ⟨rfl, ⟨n1, rfl⟩⟩)
    | (go_at_call 38; refine (alive_calls _).mono ?_; rintro e w1 ⟨rfl, hb1⟩)
    | (go_at_call 39; refine (g1 _).mono ?_; rintro e w' ⟨rfl, ⟨n2, rfl⟩⟩)
    | (go_at_call 40; refine (g2 _).mono ?_; rintro e w' ⟨rfl, ⟨n3, rfl⟩⟩)
    | (go_at_call 41; refine (g3 _).mono ?_; rintro e w' ⟨rfl, ⟨n4, rfl⟩⟩)
    | (go_at_call 42; refine (g4 _).mono ?_; rintro e w' ⟨rfl, ⟨n5, rfl⟩⟩)
    | (go_at_call 43; refine (g5 _).mono ?_; rintro e w2 ⟨rfl, hb2⟩)
    | (go_at_call 44; refine (g6 _).mono ?_; rintro e w3 ⟨rfl, hb3⟩))
  have h1 := below_then (below_dn hB _) hb1
  have h2 := below_then (below_dn h1 _) hb2
  have h3 := below_then h2 hb3
  go_ret
  exact ⟨rfl, by first | exact h3 | exact below_dn h3 _⟩

end Go.Proofs.Ytfkbcldeohblpaa.U
namespace Go.Proofs.Ytfkbcldeohblpaa
open Go.RowKit

theorem u64_nat {x : Int} (h : (Lit.int .u64 x).wf = true) : ∃ n : Nat, x = (n : Int) ∧ n < 18446744073709551616 := by
  have h1 : IntKind.u64.min = 0 := by rfl
  have h2 : IntKind.u64.max = 18446744073709551615 := by rfl
  simp only [Lit.wf, h1, h2, Bool.and_eq_true, decide_eq_true_eq] at h
  exact ⟨x.toNat, by omega, by omega⟩

theorem GaugeTells_walk (a b : Int) (wa : (Lit.int .u64 a).wf = true) (wb : (Lit.int .u64 b).wf = true) (w : World) :
    Calls Try.prog 8 #[.int .u64 a, .int .u64 b] w fun e w' => e = .returned (.bool true) ∧ Below w.heap.size w w' := by
  obtain ⟨n, rfl, hn⟩ := u64_nat wa
  obtain ⟨m, rfl, hm⟩ := u64_nat wb
  exact U.gaugeTells_nat n m hn hm w

end Go.Proofs.Ytfkbcldeohblpaa
