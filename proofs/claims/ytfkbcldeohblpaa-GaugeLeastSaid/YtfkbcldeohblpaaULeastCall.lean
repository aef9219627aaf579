/- A row of float64 values; gauge.Least over it: a contract. -/
import Derived.Test.YtfkbcldeohblpaaULeast
import Derived.Test.YtfkbcldeohblpaaGaugeTellsWalkX
namespace Go.Proofs.Ytfkbcldeohblpaa.U
open Go.RowKit Go.Proofs.YtfkbcldeohblpaaW.PrintWords Go.Proofs.YtfkbcldeohblpaaW.PrintLast Go.Proofs.YtfkbcldeohblpaaW.PrintMore
set_option linter.unusedVariables false
set_option linter.unusedSimpArgs false

/-- The number that has bits. -/
def fltOf (n : Int) : Value := .float .f64 n.toNat
/-- A row of them. -/
def kF : Kd Int := Kd.scalar fltOf (fun _ => rfl)

theorem at_flt {w : World} {A : Option Addr} {n : Nat} {xs : List Int} (h : kF.C w A n xs) (i : Int) (h0 : 0 ≤ i) (h1 : i < n) : ∃ ad, A = some ad ∧ w.cell? (ad.add i.toNat) = some (.float .f64 (rd xs i).toNat) :=
  ReadsOf.at_ (Kd.reads_of_C (enc := fltOf) (d := (0 : Int)) (h1 := fun _ => rfl) h) i h0 h1

/-- The best so far as the code keeps it. -/
def bestOf (s : Option Nat) : Nat := s.getD 0

theorem gl_lt (l : List Int) (hb : Bits64 l) : ∀ i, i ≤ l.length → ∀ b, gl l i = some b → b < 18446744073709551616 := by
  intro i
  induction i with
  | zero => intro _ b h; cases h
  | succ i ih =>
    intro hi b h
    have h : gstep (gl l i) (rd l (i : Int)).toNat = some b := h
    have hx := (hb i (by omega)).2
    unfold gstep at h
    split at h
    · exact ih (by omega) b h
    · cases hs : gl l i with
      | none => rw [hs] at h; injection h with h; rw [← h]; exact hx
      | some c =>
        rw [hs] at h
        have h : (if comp (rd l (i : Int)).toNat c < 0 then some (rd l (i : Int)).toNat else some c) = some b := h
        split at h
        · injection h with h; rw [← h]; exact hx
        · injection h with h; rw [← h]; exact ih (by omega) c hs

set_option maxHeartbeats 8000000 in
set_option maxRecDepth 100000 in
theorem least_calls (A : Option Addr) (c : Nat) (l : List Int) (w : World) (hr : kF.C w A l.length l) (hc : l.length ≤ c) (hl : l.length < 4611686018427387904) (hb : Bits64 l) :
    Calls Try.prog 50 #[.slice A l.length c] w fun e w' => e = .returned (.tuple #[.float .f64 (bestOf (gl l l.length)), .bool (gl l l.length).isSome]) ∧ Below w.heap.size w w' := by
  have HR := Aside0.mk hr
  have HB64 := Aside0.mk hb
  have HL := Aside0.mk hl
  clear hr hb hl
  have hB := Below.refl w.heap.size w
  go_enter Try.func50, Try.ntmps50
  go_wp2
  go_loopg [4, 5, 10] l.length (fun kq v4 v5 v10 w' => ∃ i : Nat, v4 = .float .f64 (bestOf (gl l i)) ∧ v5 = .bool (gl l i).isSome ∧ v10 = .int .i64 (i : Int) ∧ Aside0 (i ≤ l.length ∧ l.length - i ≤ kq) ∧ Aside0 (Below w.heap.size w w'))
  case atStart => exact ⟨0, rfl, rfl, rfl, ⟨by omega, by omega⟩, ⟨hB⟩⟩
  case round =>
    obtain ⟨i, rfl, rfl, rfl, HI, HB⟩ := hrel
    by_cases hlt : i < l.length
    · have d1 : decide ((i : Int) < (l.length : Int)) = true := decide_eq_true (by omega)
      have hw : wrap64 ((i : Int) + 1) = ((i + 1 : Nat) : Int) := by have := HL.out; unfold wrap64; omega
      obtain ⟨b0, b1⟩ := HB64.out i hlt
      have hs : gl l (i + 1) = gstep (gl l i) (rd l (i : Int)).toNat := rfl
      have HN2 := Aside0.mk (gl_lt l HB64.out i (by omega))
      have p1 : 0 ≤ (i : Int) := by omega
      have q1 : (i : Int) < (l.length : Int) := by omega
      have hrw : kF.C wr A l.length l := Kd.C_below HR.out HB.out
      obtain ⟨ad, ea, hx⟩ := at_flt hrw (i : Int) p1 q1
      subst ea
      clear hrw
      rw [Int.toNat_natCast] at hx
      generalize rd l (i : Int) = x at *
      generalize hX : x.toNat = X at *
      cases hn : isNaN X
      · cases hg : gl l i with
        | none =>
          rw [hg] at hs
          have hs2 : gl l (i + 1) = some X := by rw [hs]; unfold gstep; rw [hn, if_neg (by decide)]
          go_wp2_with (first | (go_at_call 61; refine (isNaN_calls X b1 _).mono ?_; rw [hn]; rintro e w1 ⟨rfl, ⟨n1, rfl⟩⟩))
          rw [hw]
          go_roundg (gk - 1)
          case measure => have := HI.out; omega
          case rel => exact ⟨i + 1, by rw [hs2] <;> rfl, by rw [hs2] <;> rfl, rfl, ⟨by have := HI.out; omega⟩, ⟨by first | exact HB.out | exact below_dn HB.out _⟩⟩
        | some b =>
          rw [hg] at hs
          have b2 : b < 18446744073709551616 := HN2.out b hg
          by_cases hc0 : comp X b < 0
          · have hs2 : gl l (i + 1) = some X := by rw [hs]; unfold gstep; rw [hn, if_neg (by decide)]; exact if_pos hc0
            have d2 := decide_eq_true hc0
            go_wp2_with (first | (go_at_call 61; refine (isNaN_calls X b1 _).mono ?_; rw [hn]; rintro e w1 ⟨rfl, ⟨n1, rfl⟩⟩) | (go_at_call 43; refine (comp_calls X b b1 b2 _).mono ?_; rintro e w2 ⟨rfl, hb2⟩))
            rw [hw]
            go_roundg (gk - 1)
            case measure => have := HI.out; omega
            case rel => exact ⟨i + 1, by rw [hs2] <;> rfl, by rw [hs2] <;> rfl, rfl, ⟨by have := HI.out; omega⟩, ⟨below_then (below_dn HB.out _) hb2⟩⟩
          · have hs2 : gl l (i + 1) = some b := by rw [hs]; unfold gstep; rw [hn, if_neg (by decide)]; exact if_neg hc0
            have d2 := decide_eq_false hc0
            go_wp2_with (first | (go_at_call 61; refine (isNaN_calls X b1 _).mono ?_; rw [hn]; rintro e w1 ⟨rfl, ⟨n1, rfl⟩⟩) | (go_at_call 43; refine (comp_calls X b b1 b2 _).mono ?_; rintro e w2 ⟨rfl, hb2⟩))
            rw [hw]
            go_roundg (gk - 1)
            case measure => have := HI.out; omega
            case rel => exact ⟨i + 1, by rw [hs2] <;> rfl, by rw [hs2] <;> rfl, rfl, ⟨by have := HI.out; omega⟩, ⟨below_then (below_dn HB.out _) hb2⟩⟩
      · have hs2 : gl l (i + 1) = gl l i := by rw [hs]; unfold gstep; rw [hn, if_pos rfl]
        go_wp2_with (first | (go_at_call 61; refine (isNaN_calls X b1 _).mono ?_; rw [hn]; rintro e w1 ⟨rfl, ⟨n1, rfl⟩⟩))
        rw [hw]
        go_roundg (gk - 1)
        case measure => have := HI.out; omega
        case rel => exact ⟨i + 1, by rw [hs2], by rw [hs2], rfl, ⟨by have := HI.out; omega⟩, ⟨by first | exact HB.out | exact below_dn HB.out _⟩⟩
    · obtain rfl : i = l.length := by have := HI.out; omega
      have d1 : decide ((l.length : Int) < (l.length : Int)) = false := decide_eq_false (by omega)
      go_wp2
      go_ret2
      exact ⟨rfl, by first | exact HB.out | exact below_dn HB.out _⟩

end Go.Proofs.Ytfkbcldeohblpaa.U
