/- LayoutTells answers true at every input. -/
import Derived.Test.YtfkbcldeohblpaaLTellsWalk
import Derived.OpenShut
namespace Go.Proofs.Ytfkbcldeohblpaa
set_option linter.unusedVariables false
set_option linter.unusedSimpArgs false
open Go.RowKit Go.Proofs.YtfkbcldeohblpaaW.PrintWords

/-- May the superblock be? -/
def SuperOk (S o c : Int) : Prop := 1 ≤ o ∧ o ≤ 1048576 ∧ 1 ≤ c ∧ c ≤ 128 ∧ S ≤ 1048576 ∧ o + 17 ≤ S

theorem lt_super (S o c : Int) (h : SuperOk S o c) : PLayoutTells.super_Right.f S o c = some true ∧ PLayoutTells.oakumref07_RightSuper.f S o c = some true := by
  obtain ⟨h1, h2, h3, h4, h5, h6⟩ := h
  have e : wrap64 (o + 17) = o + 17 := by unfold wrap64; omega
  constructor
  · unfold PLayoutTells.super_Right.f PLayoutTells.geom_Geom_Right.f
    rw [if_pos h1, if_pos h2, if_pos h3, decide_eq_true h4, Option.bind_some, if_pos rfl, if_pos h5, e, decide_eq_true h6]
  · unfold PLayoutTells.oakumref07_RightSuper.f
    rw [if_pos h1, if_pos h2, if_pos h3, if_pos h4, if_pos h5, e, decide_eq_true h6]

theorem lt_super_no (S o c : Int) (ho : -9223372036854775808 ≤ o ∧ o ≤ 9223372036854775807) (h : ¬ SuperOk S o c) : PLayoutTells.super_Right.f S o c = some false ∧ PLayoutTells.oakumref07_RightSuper.f S o c = some false := by
  unfold PLayoutTells.super_Right.f PLayoutTells.geom_Geom_Right.f PLayoutTells.oakumref07_RightSuper.f
  by_cases h1 : o ≥ 1
  · rw [if_pos h1, if_pos h1]
    by_cases h2 : o ≤ 1048576
    · rw [if_pos h2, if_pos h2]
      by_cases h3 : c ≥ 1
      · rw [if_pos h3, if_pos h3]
        by_cases h4 : c ≤ 128
        · rw [decide_eq_true h4, if_pos h4, Option.bind_some, if_pos rfl]
          by_cases h5 : S ≤ 1048576
          · rw [if_pos h5]
            have h6 : ¬ (o + 17 ≤ S) := fun h6 => h ⟨h1, h2, h3, h4, h5, h6⟩
            have e : wrap64 (o + 17) = o + 17 := by unfold wrap64; omega
            rw [e]
            exact ⟨by rw [decide_eq_false (fun q => h6 q)], by rw [decide_eq_false (fun q => h6 q)]⟩
          · rw [if_neg h5]; exact ⟨rfl, rfl⟩
        · rw [decide_eq_false h4, if_neg h4]; exact ⟨rfl, rfl⟩
      · rw [if_neg h3, if_neg h3]; exact ⟨rfl, rfl⟩
    · rw [if_neg h2, if_neg h2]; exact ⟨rfl, rfl⟩
  · rw [if_neg h1, if_neg h1]; exact ⟨rfl, rfl⟩

theorem lt_none (S o c : Int) (h : SuperOk S o c) : PLayoutTells.layout_Layout_none.f S o c = some false := by
  obtain ⟨h1, h2, h3, h4, h5, h6⟩ := h
  unfold PLayoutTells.layout_Layout_none.f
  rw [show (S == 0) = false from beq_eq_false_iff_ne.2 (by omega)]
  rfl

theorem lt_origin (S o c : Int) (h : SuperOk S o c) : PLayoutTells.layout_Layout_Origin.f S o c = some (17, o) := by
  unfold PLayoutTells.layout_Layout_Origin.f
  rw [lt_none S o c h, Option.bind_some, if_neg (by decide)]

theorem lt_stores (S o c : Int) (h : SuperOk S o c) : PLayoutTells.layout_Layout_Stores.f S o c = PLayoutTells.oakumref10_Stores.f S o c := by
  unfold PLayoutTells.layout_Layout_Stores.f PLayoutTells.oakumref10_Stores.f
  rw [lt_origin S o c h, Option.bind_some]

theorem lt_slot (S o c i : Int) (h : SuperOk S o c) : PLayoutTells.layout_Layout_Slot.f S o c i = if i < 0 then some (0, 2) else if i ≥ 16 then some (0, 2) else some (wrap64 (1 + i), 0) := by
  unfold PLayoutTells.layout_Layout_Slot.f
  rw [lt_none S o c h, Option.bind_some, if_neg (by decide)]

theorem lt_j1 (k : Nat) (S o c : Int) (h : SuperOk S o c) : PLayoutTells.oakumlaw10_LayoutTells.j1 (k + 1 + 1) 0 true S o c S o c = some true := by
  rw [PLayoutTells.oakumlaw10_LayoutTells.j1, PLayoutTells.oakumlaw10_alive.yes, Option.bind_some, if_pos rfl, if_pos rfl, if_pos rfl]
  unfold PLayoutTells.layout_Layout_Geom.f
  rw [Option.bind_some]
  dsimp only
  rw [if_pos (by simp), lt_origin S o c h, Option.bind_some]
  dsimp only
  rw [if_pos (by simp), lt_stores S o c h]
  unfold PLayoutTells.oakumref10_Stores.f
  rw [Option.bind_some, Option.bind_some]
  simp

theorem tells_main (k : Nat) (S o c i : Int) (ho : -9223372036854775808 ≤ o ∧ o ≤ 9223372036854775807) : PLayoutTells.oakumlaw10_LayoutTells.f (k + 1 + 1 + 1) S o c i = some true := by
  unfold PLayoutTells.oakumlaw10_LayoutTells.f PLayoutTells.layout_Of.f
  by_cases h : SuperOk S o c
  · obtain ⟨h1, h2⟩ := lt_super S o c h
    rw [h1, h2, Option.bind_some, if_pos rfl, Option.bind_some, Option.bind_some]
    dsimp only
    rw [lt_slot S o c i h]
    have hj := lt_j1 k S o c h
    by_cases q1 : i < 0
    · rw [if_pos q1, Option.bind_some, if_pos rfl, if_neg (by omega), PLayoutTells.oakumlaw10_LayoutTells.j0, if_neg (by decide), if_pos rfl]
      exact hj
    · rw [if_neg q1]
      by_cases q2 : i ≥ 16
      · rw [if_pos q2, Option.bind_some, if_pos rfl, if_pos (by omega), decide_eq_false (by omega), PLayoutTells.oakumlaw10_LayoutTells.j0, if_neg (by decide), if_pos rfl]
        exact hj
      · rw [if_neg q2, Option.bind_some, if_pos rfl, if_pos (by omega), decide_eq_true (by omega), PLayoutTells.oakumlaw10_LayoutTells.j0, if_pos rfl, if_pos rfl, if_pos rfl]
        exact hj
  · obtain ⟨h1, h2⟩ := lt_super_no S o c ho h
    rw [h1, h2, Option.bind_some, if_neg (by decide), Option.bind_some, Option.bind_some]
    dsimp only
    rw [show PLayoutTells.layout_Layout_Slot.f 0 0 0 i = some (0, 1) from rfl, Option.bind_some, if_neg (by decide), PLayoutTells.oakumlaw10_alive.yes, Option.bind_some, if_pos rfl, if_pos rfl, if_pos rfl, if_pos rfl]
    decide +kernel

theorem LayoutTells_walk (S o c i : Int) (wS : (Lit.int .i64 S).wf = true) (wo : (Lit.int .i64 o).wf = true) (wc : (Lit.int .i64 c).wf = true) (wi : (Lit.int .i64 i).wf = true) (w : World) :
    Calls Try.prog 6 #[.agg #[.int .i64 S, .int .i64 o, .int .i64 c], .int .i64 i] w fun e w' => e = .returned (.bool true) ∧ Below w.heap.size w w' :=
  PLayoutTells.oakumlaw10_LayoutTells.calls (0 + 1 + 1 + 1) S o c i true w (Aside0.mk rfl) (tells_main 0 S o c i (bounds_i64 wo))

end Go.Proofs.Ytfkbcldeohblpaa
