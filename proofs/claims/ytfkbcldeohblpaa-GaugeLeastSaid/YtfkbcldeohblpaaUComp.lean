/- gauge.Compare on numbers told by their bits: contracts of cmp.isNaN, cmp.Compare, gauge.Compare. -/
import Derived.Test.YtfkbcldeohblpaaUFlat
import Derived.Test.YtfkbcldeohblpaaUOr
namespace Go.Proofs.Ytfkbcldeohblpaa.U
open Go.RowKit Go.Proofs.YtfkbcldeohblpaaW.PrintWords Go.Proofs.YtfkbcldeohblpaaW.PrintLast Go.Proofs.YtfkbcldeohblpaaW.PrintMore
set_option linter.unusedVariables false
set_option linter.unusedSimpArgs false
attribute [local go_sem high] binF_eql binF_neq binF_lss binF_gtr binF_geq

set_option maxHeartbeats 8000000
theorem isNaN2_calls (b : Nat) (hb : b < 18446744073709551616) (w : World) : Calls Try.prog 78 #[.float .f64 b] w fun e w' => e = .returned (.bool (isNaN b)) ∧ Drawn0 w w' := by
  have ho : isNaN b = !(fEq b b) := by rw [fEq_self hb]; simp
  rw [ho]
  go_enter Try.func78, Try.ntmps78
  go_wp2
  go_ret
  exact ⟨rfl, by repeat (first | exact Drawn0.refl _ | apply Drawn0.step)⟩

/-- How two that are no NaN stand to each other. -/
def cmpKey (a b : Nat) : Int := if key a < key b then -1 else if key b < key a then 1 else 0

theorem cmp_calls (a b : Nat) (ha : a < 18446744073709551616) (hb : b < 18446744073709551616) (na : isNaN a = false) (nb : isNaN b = false) (w : World) :
    Calls Try.prog 69 #[.float .f64 a, .float .f64 b] w fun e w' => e = .returned (.int .i64 (cmpKey a b)) ∧ Drawn0 w w' := by
  have k1 := fLt_key ha hb na nb
  have k2 := fGt_key ha hb na nb
  unfold cmpKey
  by_cases c1 : key a < key b
  · rw [decide_eq_true c1] at k1
    go_enter Try.func69, Try.ntmps69
    go_wp2_with (first | (go_at_call 78; first | (refine (isNaN2_calls a ha _).mono ?_; rw [na]; rintro e w' ⟨rfl, ⟨n1, rfl⟩⟩) | (refine (isNaN2_calls b hb _).mono ?_; rw [nb]; rintro e w' ⟨rfl, ⟨n2, rfl⟩⟩)))
    go_ret
    exact ⟨rfl, by repeat (first | exact Drawn0.refl _ | apply Drawn0.step)⟩
  · rw [decide_eq_false c1] at k1
    by_cases c2 : key b < key a
    · rw [decide_eq_true c2] at k2
      go_enter Try.func69, Try.ntmps69
      go_wp2_with (first | (go_at_call 78; first | (refine (isNaN2_calls a ha _).mono ?_; rw [na]; rintro e w' ⟨rfl, ⟨n1, rfl⟩⟩) | (refine (isNaN2_calls b hb _).mono ?_; rw [nb]; rintro e w' ⟨rfl, ⟨n2, rfl⟩⟩)))
      go_ret
      exact ⟨rfl, by repeat (first | exact Drawn0.refl _ | apply Drawn0.step)⟩
    · rw [decide_eq_false c2] at k2
      go_enter Try.func69, Try.ntmps69
      go_wp2_with (first | (go_at_call 78; first | (refine (isNaN2_calls a ha _).mono ?_; rw [na]; rintro e w' ⟨rfl, ⟨n1, rfl⟩⟩) | (refine (isNaN2_calls b hb _).mono ?_; rw [nb]; rintro e w' ⟨rfl, ⟨n2, rfl⟩⟩)))
      go_ret
      exact ⟨rfl, by repeat (first | exact Drawn0.refl _ | apply Drawn0.step)⟩

/-- What gauge.Compare answers. -/
def comp (a b : Nat) : Int :=
  if isNaN a = true then (if isNaN b = true then 0 else 1)
  else if isNaN b = true then -1
  else if cmpKey a b ≠ 0 then cmpKey a b else fl (minus b) - fl (minus a)

theorem fl_sub (a b : Bool) : wrap64 (fl b - fl a) = fl b - fl a := by cases a <;> cases b <;> decide +kernel

theorem below_dn {B : Nat} {a w : World} (h : Below B a w) (n : Nat) : Below B a (w.drewN n) := ⟨h.os, h.tape, h.output, h.size, h.block⟩

theorem comp_calls (a b : Nat) (ha : a < 18446744073709551616) (hb : b < 18446744073709551616) (w : World) :
    Calls Try.prog 43 #[.float .f64 a, .float .f64 b] w fun e w' => e = .returned (.int .i64 (comp a b)) ∧ Below w.heap.size w w' := by
  have hB := Below.refl w.heap.size w
  unfold comp
  cases na : isNaN a
  · cases nb : isNaN b
    · have hf := fl_sub
      rw [if_neg (by simp), if_neg (by simp)]
      generalize hr : (if cmpKey a b ≠ 0 then cmpKey a b else fl (minus b) - fl (minus a)) = r
      go_enter Try.func43, Try.ntmps43
      go_wp2_with (first
        | (go_at_call 61; first | (refine (isNaN_calls a ha _).mono ?_; rw [na]; rintro e w' ⟨rfl, ⟨n1, rfl⟩⟩) | (refine (isNaN_calls b hb _).mono ?_; rw [nb]; rintro e w' ⟨rfl, ⟨n2, rfl⟩⟩))
        | (go_at_call 69; refine (cmp_calls a b ha hb na nb _).mono ?_; rintro e w' ⟨rfl, ⟨n3, rfl⟩⟩)
        | (go_at_call 70; first | (refine (signbit_calls b hb _).mono ?_; rintro e w' ⟨rfl, ⟨n4, rfl⟩⟩) | (refine (signbit_calls a ha _).mono ?_; rintro e w' ⟨rfl, ⟨n4, rfl⟩⟩))
        | (go_at_call 67; refine (flag_calls _ _).mono ?_; rintro e w' ⟨rfl, ⟨n5, rfl⟩⟩)
        )
      refine (or_calls (cmpKey a b) (fl (minus b) - fl (minus a)) _ _ _ rfl (by first | rfl | simp)).mono ?_
      rw [hr]
      rintro e w' ⟨rfl, ⟨n6, rfl⟩⟩
      go_wp2
      go_ret
      exact ⟨rfl, below_dn (Below.alloc (below_dn hB _) (Nat.le_refl _) _) _⟩
    · have hf := fl_sub
      go_enter Try.func43, Try.ntmps43
      go_wp2_with (first
        | (go_at_call 61; first | (refine (isNaN_calls a ha _).mono ?_; rw [na]; rintro e w' ⟨rfl, ⟨n1, rfl⟩⟩) | (refine (isNaN_calls b hb _).mono ?_; rw [nb]; rintro e w' ⟨rfl, ⟨n2, rfl⟩⟩))
        | (go_at_call 67; refine (flag_calls _ _).mono ?_; rintro e w' ⟨rfl, ⟨n5, rfl⟩⟩))
      go_ret
      exact ⟨rfl, below_dn hB _⟩
  · cases nb : isNaN b
    · have hf := fl_sub
      go_enter Try.func43, Try.ntmps43
      go_wp2_with (first
        | (go_at_call 61; first | (refine (isNaN_calls a ha _).mono ?_; rw [na]; rintro e w' ⟨rfl, ⟨n1, rfl⟩⟩) | (refine (isNaN_calls b hb _).mono ?_; rw [nb]; rintro e w' ⟨rfl, ⟨n2, rfl⟩⟩))
        | (go_at_call 67; refine (flag_calls _ _).mono ?_; rintro e w' ⟨rfl, ⟨n5, rfl⟩⟩))
      go_ret
      exact ⟨rfl, below_dn hB _⟩
    · have hf := fl_sub
      go_enter Try.func43, Try.ntmps43
      go_wp2_with (first
        | (go_at_call 61; first | (refine (isNaN_calls a ha _).mono ?_; rw [na]; rintro e w' ⟨rfl, ⟨n1, rfl⟩⟩) | (refine (isNaN_calls b hb _).mono ?_; rw [nb]; rintro e w' ⟨rfl, ⟨n2, rfl⟩⟩))
        | (go_at_call 67; refine (flag_calls _ _).mono ?_; rintro e w' ⟨rfl, ⟨n5, rfl⟩⟩))
      go_ret
      exact ⟨rfl, below_dn hB _⟩

end Go.Proofs.Ytfkbcldeohblpaa.U
