/- cmp.Or of two numbers that stand in a new block: a contract. -/
import Derived.Test.YtfkbcldeohblpaaUFlat
import Derived.Test.YtfkbcldeohblpaaURefs
import Derived.Laws.NewBlocks
namespace Go.Proofs.Ytfkbcldeohblpaa.U
open Go.RowKit Go.Proofs.YtfkbcldeohblpaaW.PrintWords Go.Proofs.YtfkbcldeohblpaaW.PrintLast Go.Proofs.YtfkbcldeohblpaaW.PrintMore
set_option linter.unusedVariables false
set_option linter.unusedSimpArgs false

theorem two_row (w : World) (x y : Int) (t : TypeId) : Kd.C (Kd.int .i64) (w.alloc (Obj.cells #[.int .i64 x, .int .i64 y] t)) (some ⟨w.heap.size, 0, none⟩) 2 [x, y] := by
  refine ⟨rfl, by omega, fun _ => ⟨_, rfl, fun j p hj => ⟨[.int .i64 p], rfl, rfl, fun i u hi => ?_⟩⟩⟩
  obtain rfl : i = 0 := by
    rcases i with _ | i
    · rfl
    · simp at hi
  obtain rfl : Value.int .i64 p = u := by simpa using hi
  rcases j with _ | _ | j
  · obtain rfl : x = p := by simpa using hj
    exact (World.cell?_alloc_at _ _ _ _ rfl).trans rfl
  · obtain rfl : y = p := by simpa using hj
    exact (World.cell?_alloc_at _ _ _ _ rfl).trans rfl
  · simp at hj

theorem or_two (x y : Int) : cmp_Or_int.f 3 [x, y] = some (if x ≠ 0 then x else y) := by
  unfold cmp_Or_int.f
  simp only [cmp_Or_int.l0, rd, List.length_cons, List.length_nil]
  rw [show wrap64 (0 + 1) = 1 by decide +kernel, show wrap64 (1 + 1) = 2 by decide +kernel]
  by_cases h : x = 0
  · subst h
    by_cases h2 : y = 0
    · subst h2; rfl
    · simp [h2]
  · simp [h]

theorem or_calls (x y : Int) (w : World) (w0 : World) (A : Nat) (hw : w = w0.alloc (Obj.cells #[.int .i64 x, .int .i64 y] 3)) (hA : A = w0.heap.size) :
    Calls Try.prog 68 #[.slice (some ⟨A, 0, none⟩) 2 2] w fun e w' => e = .returned (.int .i64 (if x ≠ 0 then x else y)) ∧ Drawn0 w w' := by
  subst hw hA
  exact cmp_Or_int.calls 3 (some ⟨w0.heap.size, 0, none⟩) 2 [x, y] _ _ (two_row w0 x y 3) (Nat.le_refl _) (or_two x y)
end Go.Proofs.Ytfkbcldeohblpaa.U
