/- An array of two integers by value: opened, and shut again. -/
import Derived.WalkKit
import Derived.ProofKit
import Derived.OpenShut
import Derived.Lib.SmallJoins
namespace Go.Proofs.Ytfkbcldeohblpaa
set_option linter.unusedVariables false
set_option linter.unusedSimpArgs false
open Go.ChangeShapes Go.WideShapes Go.ChangeAt Go.RowKit Go.Joins

variable {H : Type} {enc : TypeId × Value → H} {P : Program} {w : World} {base : Nat} {spare : Nat → Bool} {held : Bool}

theorem open_arr2 {r : Reach} {b0 : Nat} {t e : TypeId} {k : IntKind} {v : Value} {d : DataW H} {p : List MemPlace} (hs : P.underlying t = some (.array 2 e)) (hE : P.underlying e = some (.int k)) (hC : P.cellsOf t = 2) (hCe : P.cellsOf e = 1)
    (hv : Value.okWide P w r b0 t v) (h : DataW.Trod enc P w base spare held t v d p) :
    ∃ a b : Int, v = .agg #[.int k a, .int k b] ∧ d = .agg [.lit (.int k a), .lit (.int k b)] ∧ p = [] ∧ (Lit.int k a).wf = true ∧ (Lit.int k b).wf = true := by
  simp only [Value.okWide, hs] at hv
  obtain ⟨cs, rfl, hsz, _⟩ := hv
  obtain ⟨fuel, hf⟩ := h
  obtain ⟨c0, c1, rfl⟩ := array2 (hsz.trans hC)
  obtain ⟨xs, m, rfl, hx, _, hlen, hi⟩ := DataW.trod_array hs hf
  have h0 := hi 0 (by omega)
  have h1 := hi 1 (by omega)
  rw [hCe] at h0 h1
  obtain ⟨y0, y1, rfl⟩ : ∃ y0 y1, xs = [y0, y1] := by
    match xs, hlen with
    | [a, b], _ => exact ⟨a, b, rfl⟩
  simp [Value.cells] at h0 h1
  obtain ⟨a, e0, rfl, wa⟩ := DataW.trod_int hE h0
  obtain ⟨b, e1, rfl, wb⟩ := DataW.trod_int hE h1
  simp at e0 e1
  subst e0 e1
  simp at hx
  exact ⟨a, b, rfl, hx.1, hx.2, wa, wb⟩

theorem shut_arr2 {t e : TypeId} {k : IntKind} {a b : Int} (hs : P.underlying t = some (.array 2 e)) (hE : P.underlying e = some (.int k)) (hC : P.cellsOf t = 2) (hCe : P.cellsOf e = 1)
    (wa : (Lit.int k a).wf = true) (wb : (Lit.int k b).wf = true) :
    DataW.Trod enc P w base spare held t (.agg #[.int k a, .int k b]) (.agg [.lit (.int k a), .lit (.int k b)]) [] := by
  refine ⟨2, ?_⟩
  unfold DataW.trod
  rw [hs]
  simp [Value.cells, hC, hCe, DataW.trod, hE, wa, wb, List.range, List.range.loop]

end Go.Proofs.Ytfkbcldeohblpaa
