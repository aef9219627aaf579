/- sort.Search (function 55) over a function value that may lay blocks: it returns the place K at which the answers turn from false to true. -/
import Derived.Test.YtfkbcldeohblpaaRows
import Derived.WalkKit
import Derived.WalkSpells
import Derived.WalkLawsBesides
import Derived.Deep.LoopGhost
import Derived.Lib.Hide
namespace Go.Proofs.Ytfkbcldeohblpaa
set_option linter.unusedVariables false
set_option linter.unusedSimpArgs false
open Go.RowKit

/-- What the searched function must do: at each place below n it answers p, in whatever world has grown out of w. -/
def SearchFn (g : Nat) (cb : Array Value) (n : Nat) (p : Nat → Bool) (w : World) : Prop :=
  ∀ W : World, Below w.heap.size w W → ∀ i : Nat, i < n → Calls Try.prog g (#[.int .i64 i] ++ cb) W fun e w' => e = .returned (.bool (p i)) ∧ Below W.heap.size W w'

/-- The place at which p turns. -/
def Turns (n K : Nat) (p : Nat → Bool) : Prop := K ≤ n ∧ (∀ t, t < K → p t = false) ∧ (∀ t, K ≤ t → t < n → p t = true)

set_option maxHeartbeats 4000000 in
set_option maxRecDepth 100000 in
theorem search_calls (g : Nat) (cb : Array Value) (n K : Nat) (p : Nat → Bool) (w : World) (eg : ∀ args w, (callFunc g args).run Try.prog w = .ok (.enter g args) w) (hsz : n < 4611686018427387904)
    (HF : SearchFn g cb n p w) (HT : Turns n K p) :
    Calls Try.prog 55 #[.int .i64 n, .func (.func g) #[] cb] w fun e w' => e = .returned (.int .i64 K) ∧ Below w.heap.size w w' := by
  go_enter Try.func55, Try.ntmps55
  go_wp2
  go_loopg [5, 6] n (fun kx s5 s6 wr => ∃ (lo hi : Nat), s5 = .int .i64 lo ∧ s6 = .int .i64 hi ∧ lo ≤ K ∧ K ≤ hi ∧ hi ≤ n ∧ hi - lo ≤ kx ∧ Below w.heap.size w wr)
  case atStart => exact ⟨0, n, rfl, rfl, Nat.zero_le _, HT.1, Nat.le_refl _, by omega, Below.refl _ _⟩
  case round =>
    obtain ⟨lo, hi, rfl, rfl, hlk, hkh, hin, hg, hb⟩ := hrel
    by_cases hlt : lo < hi
    · have hc := HF wr hb ((lo + hi) / 2) (by omega)
      rw [show (((lo + hi) / 2 : Nat) : Int) = ((lo : Int) + (hi : Int)) / 2 by omega] at hc
      cases hp : p ((lo + hi) / 2) <;> rw [hp] at hc
      · have hm : (lo + hi) / 2 < K := by
          apply Decidable.byContradiction; intro h
          have := HT.2.2 ((lo + hi) / 2) (by omega) (by omega)
          rw [hp] at this; cases this
        clear hp
        go_wp2_with fail
        refine hc.mono ?_
        rintro e w1 ⟨rfl, hbw⟩
        clear hc
        go_wp2_with fail
        go_roundg (hi - ((lo + hi) / 2 + 1))
        case measure => omega
        case rel =>
          have e1 : ((lo : Int) + (hi : Int)) / 2 + 1 = (((lo + hi) / 2 + 1 : Nat) : Int) := by omega
          rw [e1]
          exact ⟨(lo + hi) / 2 + 1, hi, rfl, rfl, hm, hkh, hin, Nat.le_refl _, hb.trans (hbw.mono hb.size)⟩
      · have hm : K ≤ (lo + hi) / 2 := by
          apply Decidable.byContradiction; intro h
          have := HT.2.1 ((lo + hi) / 2) (by omega)
          rw [hp] at this; cases this
        clear hp
        go_wp2_with fail
        refine hc.mono ?_
        rintro e w1 ⟨rfl, hbw⟩
        clear hc
        go_wp2_with fail
        go_roundg ((lo + hi) / 2 - lo)
        case measure => omega
        case rel =>
          have e1 : ((lo : Int) + (hi : Int)) / 2 = (((lo + hi) / 2 : Nat) : Int) := by omega
          rw [e1]
          exact ⟨lo, (lo + hi) / 2, rfl, rfl, hlk, hm, by omega, Nat.le_refl _, hb.trans (hbw.mono hb.size)⟩
    · obtain rfl : hi = lo := by omega
      obtain rfl : hi = K := by omega
      go_wp2
      go_ret
      exact ⟨rfl, hb⟩

end Go.Proofs.Ytfkbcldeohblpaa
