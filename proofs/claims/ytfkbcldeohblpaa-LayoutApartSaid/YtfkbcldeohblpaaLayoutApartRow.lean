/- LayoutApart (law10): for every superblock, store and two numbers the law's Go function answers true, and its arguments read afterwards as before. No condition. -/
import Derived.Test.YtfkbcldeohblpaaRows
import Derived.Test.YtfkbcldeohblpaaLayoutApartWalkX
import Derived.WalkKit
import Derived.ProofKit
import Derived.OpenShut
import Derived.ShutString
import Derived.ChangeOld
import Derived.Below
import Derived.SizedLaws
import Derived.Lib.SmallJoins
namespace Go.Proofs.Ytfkbcldeohblpaa.layoutApart
open Go.ChangeShapes Go.WideShapes Go.ChangeAt Go.RowKit Go.Joins
set_option linter.unusedVariables false
theorem own : ownKnob Try.prog.godebug = none := by kernel_rfl
theorem cells25 : Try.prog.cellsOf 25 = 2 := by kernel_rfl
theorem cells49 : Try.prog.cellsOf 49 = 3 := by kernel_rfl
theorem cells59 : Try.prog.cellsOf 59 = 2 := by kernel_rfl
theorem cellsE : Try.prog.cellsOf 3 = 1 := by kernel_rfl
set_option maxRecDepth 100000 in
theorem lifted (os : Os) (started : os.Started) (H : Type) (enc : TypeId × Value → H) :
    ReturnsInHanded {} Try.checked os 7 .any (Rows.layoutApartSpec.pre6 enc Try.prog Try.f7 Rows.layoutApartRow.domain false) (Rows.layoutApartSpec.post enc Try.prog Try.f7 false true false false) := by
  refine returnsInHanded_of_change_sized (C := Try.checked) own started (by kernel_rfl) Try.func7
    (ChangeSpec.witness6 (enc := enc) (C := Try.checked) false ⟨#[], #[.agg #[.int .i64 0, .int .i64 0, .int .i64 0], .agg #[.int .i64 0, .int .i64 0], .agg #[.int .i64 0, .int .i64 0]], []⟩ 8 (by kernel_rfl) (by kernel_rfl) (by kernel_rfl) (by kernel_rfl)) ?_
  intro W base args ds gs before hval0 hW hcnd hsz0 _
  have hsz : (DataW.weightsEach Try.prog (Try.f7.params.toList ++ Rows.layoutApartSpec.plain.varTypes Try.prog) (ds ++ gs)).all (· ≤ reachBytes) = true := hsz0
  have hval : ∀ (j : Nat) t v, Try.f7.params[j]? = some t → args[j]? = some v → Value.okWide Try.prog W .any base t v := hval0
  have hW' := hW
  obtain ⟨p, q, hA0, hV, rfl, hfz, hnd⟩ := hW
  have hA : DataW.TrodAll enc Try.prog W 0 (fun _ => true) true Try.f7.params.toList args.toList ds p := hA0
  rw [Try.params7] at hA hval hsz
  obtain ⟨v0, vs0, d0, ds0, p0, q0, hargs, rfl, rfl, h0, r0⟩ := trodAll_cons hA
  obtain ⟨v1, vs1, d1, ds1, p1, q1, rfl, rfl, rfl, h1, r1⟩ := trodAll_cons r0
  obtain ⟨v2, vs2, d2, ds2, p2, q2, rfl, rfl, rfl, h2, r2⟩ := trodAll_cons r1
  obtain ⟨rfl, rfl, rfl⟩ := trodAll_nil r2
  obtain rfl : args = #[v0, v1, v2] := by cases args; simp_all
  obtain ⟨rfl, rfl⟩ := trodVars_none hV
  obtain ⟨c00, c01, c02, y00, y01, y02, m0, rfl, rfl, rfl, g00, g01, g02⟩ := open_agg3 Try.underlying49 (by kernel_rfl) cells49 (hval 0 49 v0 rfl rfl) h0
  obtain ⟨a00, e00, rfl, w00⟩ := DataW.trod_int Try.underlying3 g00
  simp at e00
  subst e00
  obtain ⟨a01, e01, rfl, w01⟩ := DataW.trod_int Try.underlying3 g01
  simp at e01
  subst e01
  obtain ⟨a02, e02, rfl, w02⟩ := DataW.trod_int Try.underlying3 g02
  simp at e02
  subst e02
  have reads0 : ∀ (W' : World) (sp : Nat → Bool), DataW.Trod enc Try.prog W' 0 sp true 49 (.agg #[.int .i64 a00, .int .i64 a01, .int .i64 a02]) (.agg [.lit (.int .i64 a00), .lit (.int .i64 a01), .lit (.int .i64 a02)]) [] := fun W' sp =>
    shut_agg3 (y0 := (.lit (.int .i64 a00), [])) (y1 := (.lit (.int .i64 a01), [])) (y2 := (.lit (.int .i64 a02), [])) Try.underlying49 (by kernel_rfl) cells49 ⟨1, by simp [DataW.trod, Try.underlying3, w00]⟩ ⟨1, by simp [DataW.trod, Try.underlying3, w01]⟩ ⟨1, by simp [DataW.trod, Try.underlying3, w02]⟩
  obtain ⟨c10, c11, y10, y11, m1, rfl, rfl, rfl, g10, g11⟩ := open_agg2 Try.underlying25 (by kernel_rfl) cells25 (hval 1 25 v1 rfl rfl) h1
  obtain ⟨a10, e10, rfl, w10⟩ := DataW.trod_int Try.underlying3 g10
  simp at e10
  subst e10
  obtain ⟨a11, e11, rfl, w11⟩ := DataW.trod_int Try.underlying3 g11
  simp at e11
  subst e11
  have reads1 : ∀ (W' : World) (sp : Nat → Bool), DataW.Trod enc Try.prog W' 0 sp true 25 (.agg #[.int .i64 a10, .int .i64 a11]) (.agg [.lit (.int .i64 a10), .lit (.int .i64 a11)]) [] := fun W' sp =>
    shut_agg2 (y0 := (.lit (.int .i64 a10), [])) (y1 := (.lit (.int .i64 a11), [])) Try.underlying25 (by kernel_rfl) cells25 ⟨1, by simp [DataW.trod, Try.underlying3, w10]⟩ ⟨1, by simp [DataW.trod, Try.underlying3, w11]⟩
  obtain ⟨a20, a21, rfl, rfl, rfl, w20, w21⟩ := open_arr2 Try.underlying59 Try.underlying3 cells59 cellsE (hval 2 59 v2 rfl rfl) h2
  clear hA0 hval0 hsz0 hsz
  refine (LayoutApart_walk a00 a01 a02 a10 a11 a20 a21 w00 w01 w02 w10 w11 w20 w21 W).mono fun e W' ⟨he, bel⟩ => ?_
  subst he
  exact ⟨_, rfl, _, _, _, [], _, [], hW', trodAll_mk1 (shut_bool Try.underlying4 _), (trodAll_cons_mk (reads0 _ _) (trodAll_cons_mk (reads1 _ _) (trodAll_cons_mk (shut_arr2 Try.underlying59 Try.underlying3 cells59 cellsE w20 w21) trodAll_mk0))), rfl, bel.frame _, fun h => by cases h⟩
theorem over : Rows.layoutApartRow.holds Try.pinned (OpenSpec.ofChange Rows.layoutApartSpec) :=
  OpenClaim.holds_of_wide 7 Try.f7 rfl rfl rfl rfl rfl rfl rfl ⟨rfl, rfl, rfl, rfl, rfl⟩ rfl rfl rfl rfl rfl (by kernel_rfl) Try.func7 (by kernel_rfl)
    (of_decide_eq_true (by kernel_rfl)) (by unfold Func.isWrapper; first | (rw [if_pos (by decide +kernel)]; kernel_rfl) | (rw [if_neg (by decide +kernel)]; exact ⟨rfl, rfl⟩))
    (fun os started H enc _ => lifted os started H enc)
theorem proved : Rows.LayoutApartSaid := over
end Go.Proofs.Ytfkbcldeohblpaa.layoutApart
namespace Go.Proofs.Ytfkbcldeohblpaa
/-- The given statement. -/
theorem layoutApart_holds : Rows.LayoutApartSaid := layoutApart.proved
#print axioms layoutApart_holds
end Go.Proofs.Ytfkbcldeohblpaa
