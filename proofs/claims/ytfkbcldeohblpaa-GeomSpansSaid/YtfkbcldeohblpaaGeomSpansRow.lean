/- GeomSpans (law05): for every geometry, chunk number and sectors the law's Go function answers true, and its arguments read afterwards as before. No condition. -/
import Derived.Test.YtfkbcldeohblpaaRows
import Derived.Test.YtfkbcldeohblpaaGeomSpansWalkX
import Derived.WalkKit
import Derived.ProofKit
import Derived.OpenShut
import Derived.ShutString
import Derived.ChangeOld
import Derived.Below
import Derived.SizedLaws
import Derived.Lib.SmallJoins
namespace Go.Proofs.Ytfkbcldeohblpaa.geomSpans
open Go.ChangeShapes Go.WideShapes Go.ChangeAt Go.RowKit Go.Joins
set_option linter.unusedVariables false
theorem own : ownKnob Try.prog.godebug = none := by kernel_rfl
theorem cells23 : Try.prog.cellsOf 23 = 2 := by kernel_rfl
theorem cells25 : Try.prog.cellsOf 25 = 2 := by kernel_rfl
set_option maxRecDepth 100000 in
theorem lifted (os : Os) (started : os.Started) (H : Type) (enc : TypeId × Value → H) :
    ReturnsInHanded {} Try.checked os 3 .any (Rows.geomSpansSpec.pre6 enc Try.prog Try.f3 Rows.geomSpansRow.domain false) (Rows.geomSpansSpec.post enc Try.prog Try.f3 false true false false) := by
  refine returnsInHanded_of_change_sized (C := Try.checked) own started (by kernel_rfl) Try.func3
    (ChangeSpec.witness6 (enc := enc) (C := Try.checked) false ⟨#[], #[.agg #[.int .i64 0, .int .i64 0], .int .i64 0, .agg #[.int .i64 0, .int .i64 0]], []⟩ 8 (by kernel_rfl) (by kernel_rfl) (by kernel_rfl) (by kernel_rfl)) ?_
  intro W base args ds gs before hval0 hW hcnd hsz0 _
  have hsz : (DataW.weightsEach Try.prog (Try.f3.params.toList ++ Rows.geomSpansSpec.plain.varTypes Try.prog) (ds ++ gs)).all (· ≤ reachBytes) = true := hsz0
  have hval : ∀ (j : Nat) t v, Try.f3.params[j]? = some t → args[j]? = some v → Value.okWide Try.prog W .any base t v := hval0
  have hW' := hW
  obtain ⟨p, q, hA0, hV, rfl, hfz, hnd⟩ := hW
  have hA : DataW.TrodAll enc Try.prog W 0 (fun _ => true) true Try.f3.params.toList args.toList ds p := hA0
  rw [Try.params3] at hA hval hsz
  obtain ⟨v0, vs0, d0, ds0, p0, q0, hargs, rfl, rfl, h0, r0⟩ := trodAll_cons hA
  obtain ⟨v1, vs1, d1, ds1, p1, q1, rfl, rfl, rfl, h1, r1⟩ := trodAll_cons r0
  obtain ⟨v2, vs2, d2, ds2, p2, q2, rfl, rfl, rfl, h2, r2⟩ := trodAll_cons r1
  obtain ⟨rfl, rfl, rfl⟩ := trodAll_nil r2
  obtain rfl : args = #[v0, v1, v2] := by cases args; simp_all
  obtain ⟨rfl, rfl⟩ := trodVars_none hV
  obtain ⟨c00, c01, y00, y01, m0, rfl, rfl, rfl, g00, g01⟩ := open_agg2 Try.underlying23 (by kernel_rfl) cells23 (hval 0 23 v0 rfl rfl) h0
  obtain ⟨a00, e00, rfl, w00⟩ := DataW.trod_int Try.underlying3 g00
  simp at e00
  subst e00
  obtain ⟨a01, e01, rfl, w01⟩ := DataW.trod_int Try.underlying3 g01
  simp at e01
  subst e01
  have reads0 : ∀ (W' : World) (sp : Nat → Bool), DataW.Trod enc Try.prog W' 0 sp true 23 (.agg #[.int .i64 a00, .int .i64 a01]) (.agg [.lit (.int .i64 a00), .lit (.int .i64 a01)]) [] := fun W' sp =>
    shut_agg2 (y0 := (.lit (.int .i64 a00), [])) (y1 := (.lit (.int .i64 a01), [])) Try.underlying23 (by kernel_rfl) cells23 ⟨1, by simp [DataW.trod, Try.underlying3, w00]⟩ ⟨1, by simp [DataW.trod, Try.underlying3, w01]⟩
  obtain ⟨a1, rfl, rfl, rfl, w1⟩ := open_int Try.underlying3 (hval 1 3 v1 rfl rfl) h1
  obtain ⟨c20, c21, y20, y21, m2, rfl, rfl, rfl, g20, g21⟩ := open_agg2 Try.underlying25 (by kernel_rfl) cells25 (hval 2 25 v2 rfl rfl) h2
  obtain ⟨a20, e20, rfl, w20⟩ := DataW.trod_int Try.underlying3 g20
  simp at e20
  subst e20
  obtain ⟨a21, e21, rfl, w21⟩ := DataW.trod_int Try.underlying3 g21
  simp at e21
  subst e21
  have reads2 : ∀ (W' : World) (sp : Nat → Bool), DataW.Trod enc Try.prog W' 0 sp true 25 (.agg #[.int .i64 a20, .int .i64 a21]) (.agg [.lit (.int .i64 a20), .lit (.int .i64 a21)]) [] := fun W' sp =>
    shut_agg2 (y0 := (.lit (.int .i64 a20), [])) (y1 := (.lit (.int .i64 a21), [])) Try.underlying25 (by kernel_rfl) cells25 ⟨1, by simp [DataW.trod, Try.underlying3, w20]⟩ ⟨1, by simp [DataW.trod, Try.underlying3, w21]⟩
  clear hA0 hval0 hsz0 hsz
  refine (GeomSpans_walk a00 a01 a1 a20 a21 w00 w01 w1 w20 w21 W).mono fun e W' ⟨he, bel⟩ => ?_
  subst he
  exact ⟨_, rfl, _, _, _, [], _, [], hW', trodAll_mk1 (shut_bool Try.underlying4 _), (trodAll_cons_mk (reads0 _ _) (trodAll_cons_mk (shut_int Try.underlying3 w1) (trodAll_cons_mk (reads2 _ _) trodAll_mk0))), rfl, bel.frame _, fun h => by cases h⟩
theorem over : Rows.geomSpansRow.holds Try.pinned (OpenSpec.ofChange Rows.geomSpansSpec) :=
  OpenClaim.holds_of_wide 3 Try.f3 rfl rfl rfl rfl rfl rfl rfl ⟨rfl, rfl, rfl, rfl, rfl⟩ rfl rfl rfl rfl rfl (by kernel_rfl) Try.func3 (by kernel_rfl)
    (of_decide_eq_true (by kernel_rfl)) (by unfold Func.isWrapper; first | (rw [if_pos (by decide +kernel)]; kernel_rfl) | (rw [if_neg (by decide +kernel)]; exact ⟨rfl, rfl⟩))
    (fun os started H enc _ => lifted os started H enc)
theorem proved : Rows.GeomSpansSaid := over
end Go.Proofs.Ytfkbcldeohblpaa.geomSpans
namespace Go.Proofs.Ytfkbcldeohblpaa
/-- The given statement. -/
theorem geomSpans_holds : Rows.GeomSpansSaid := geomSpans.proved
#print axioms geomSpans_holds
end Go.Proofs.Ytfkbcldeohblpaa
