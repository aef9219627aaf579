/- The first of the least of many numbers: one step, all steps, and the document's Least. Plain Lean, no program's text but the printed functions of the document. -/
import Derived.Test.YtfkbcldeohblpaaURefs3
import Derived.Test.YtfkbcldeohblpaaURank
namespace Go.Proofs.Ytfkbcldeohblpaa.U
open Go.RowKit Go.Proofs.YtfkbcldeohblpaaW.PrintWords Go.Proofs.YtfkbcldeohblpaaW.PrintLast Go.Proofs.YtfkbcldeohblpaaW.PrintMore
set_option linter.unusedVariables false
set_option linter.unusedSimpArgs false

/-- One step: the best so far, and the next number. -/
def gstep (s : Option Nat) (x : Nat) : Option Nat :=
  if isNaN x = true then s else match s with
    | none => some x
    | some b => if comp x b < 0 then some x else some b

/-- The best of the first i. -/
def gl (l : List Int) : Nat → Option Nat
  | 0 => none
  | i + 1 => gstep (gl l i) (rd l (i : Int)).toNat

theorem gl_nan (l : List Int) : ∀ i b, gl l i = some b → isNaN b = false := by
  intro i
  induction i with
  | zero => intro b h; cases h
  | succ i ih =>
    intro b h
    have h : gstep (gl l i) (rd l (i : Int)).toNat = some b := h
    unfold gstep at h
    cases hn : isNaN (rd l (i : Int)).toNat
    · rw [hn, if_neg (by decide)] at h
      cases hs : gl l i with
      | none => rw [hs] at h; injection h with h; rw [← h]; exact hn
      | some c =>
        rw [hs] at h
        have h : (if comp (rd l (i : Int)).toNat c < 0 then some (rd l (i : Int)).toNat else some c) = some b := h
        split at h
        · injection h with h; rw [← h]; exact hn
        · injection h with h; rw [← h]; exact ih c hs
    · rw [hn, if_pos rfl] at h
      exact ih b h

/-- All numbers are bits. -/
def Bits64 (l : List Int) : Prop := ∀ i : Nat, i < l.length → 0 ≤ rd l (i : Int) ∧ (rd l (i : Int)).toNat < 18446744073709551616

theorem kind_more (b : Nat) (hb : b < 18446744073709551616) : ∀ j, oakumref01_Kind.f (j + 2) (b : Int) = some (kind b) := by
  intro j
  induction j with
  | zero => exact ref_kind b hb
  | succ j ih => exact oakumref01_Kind.mono _ _ _ ih

theorem comp_more (a b : Nat) (ha : a < 18446744073709551616) (hb : b < 18446744073709551616) : ∀ j, oakumref01_Compare.f (j + 2) (a : Int) (b : Int) = some (comp a b) := by
  intro j
  induction j with
  | zero => exact ref_comp a b ha hb
  | succ j ih => exact oakumref01_Compare.mono _ _ _ _ ih

theorem kind_zero (x : Nat) : (kind x = 0) ↔ isNaN x = true := by
  unfold kind
  cases isNaN x
  · simp only [Bool.false_eq_true, if_false, iff_false]
    (repeat' split) <;> omega
  · simp

/-- The document's place and the best so far. -/
def At (l : List Int) (x : Int) (i : Nat) : Prop := (x = -1 ∧ gl l i = none) ∨ ∃ m : Nat, x = (m : Int) ∧ m < i ∧ gl l i = some (rd l (m : Int)).toNat

theorem ref_loop (l : List Int) (hl : l.length < 4611686018427387904) (hb : Bits64 l) : ∀ d i : Nat, ∀ x : Int, l.length - i = d → i ≤ l.length → At l x i →
    ∃ r, oakumref01_Least.l0 (d + 3) l x (i : Int) = some r ∧ At l r l.length := by
  intro d
  induction d with
  | zero =>
    intro i x hd hi ha
    obtain rfl : i = l.length := by omega
    refine ⟨x, ?_, ha⟩
    simp only [oakumref01_Least.l0]
    rw [if_neg (by omega)]
  | succ d ih =>
    intro i x hd hi ha
    have hlt : i < l.length := by omega
    have hw : wrap64 ((i : Int) + 1) = ((i + 1 : Nat) : Int) := by unfold wrap64; omega
    obtain ⟨b0, b1⟩ := hb i hlt
    have hx : ((rd l (i : Int)).toNat : Int) = rd l (i : Int) := Int.toNat_of_nonneg b0
    have hk := kind_more _ b1 (d + 1)
    rw [hx] at hk
    have hs : gl l (i + 1) = gstep (gl l i) (rd l (i : Int)).toNat := rfl
    have e : d + 1 + 3 = (d + 3) + 1 := rfl
    rw [e]
    simp only [oakumref01_Least.l0]
    rw [if_pos (by omega), if_pos (by omega), hk, hw]
    dsimp only [Option.bind_some]
    cases hn : isNaN (rd l (i : Int)).toNat
    · have hn0 : ¬ kind (rd l (i : Int)).toNat = 0 := by rw [kind_zero, hn]; decide
      rw [if_neg hn0]
      rcases ha with ⟨rfl, ha⟩ | ⟨m, rfl, hm, ha⟩
      · rw [if_pos (by omega)]
        refine ih (i + 1) _ (by omega) (by omega) (Or.inr ⟨i, rfl, by omega, ?_⟩)
        rw [hs, ha]
        unfold gstep
        rw [hn, if_neg (by decide)]
      · obtain ⟨m0, m1⟩ := hb m (by omega)
        have hxm : ((rd l (m : Int)).toNat : Int) = rd l (m : Int) := Int.toNat_of_nonneg m0
        have hc := comp_more _ _ b1 m1 (d + 1)
        rw [hx, hxm] at hc
        rw [if_neg (by omega), if_pos (by omega), if_pos (by omega), hc]
        dsimp only [Option.bind_some]
        by_cases c : comp (rd l (i : Int)).toNat (rd l (m : Int)).toNat < 0
        · rw [if_pos c]
          refine ih (i + 1) _ (by omega) (by omega) (Or.inr ⟨i, rfl, by omega, ?_⟩)
          rw [hs, ha]
          unfold gstep
          rw [hn, if_neg (by decide)]
          exact if_pos c
        · rw [if_neg c]
          refine ih (i + 1) _ (by omega) (by omega) (Or.inr ⟨m, rfl, by omega, ?_⟩)
          rw [hs, ha]
          unfold gstep
          rw [hn, if_neg (by decide)]
          exact if_neg c
    · have hn0 : kind (rd l (i : Int)).toNat = 0 := by rw [kind_zero, hn]
      rw [if_pos hn0]
      have hg : gl l (i + 1) = gl l i := by
        rw [hs]
        unfold gstep
        rw [hn, if_pos rfl]
      refine ih (i + 1) _ (by omega) (by omega) ?_
      rcases ha with ⟨h1, ha⟩ | ⟨m, h1, hm, ha⟩
      · exact Or.inl ⟨h1, by rw [hg]; exact ha⟩
      · exact Or.inr ⟨m, h1, by omega, by rw [hg]; exact ha⟩

/-- THE DOCUMENT'S LEAST. -/
theorem ref_least (l : List Int) (hl : l.length < 4611686018427387904) (hb : Bits64 l) : ∃ k r, oakumref01_Least.f k l = some r ∧ At l r l.length := by
  obtain ⟨r, h1, h2⟩ := ref_loop l hl hb l.length 0 (-1) (by omega) (by omega) (Or.inl ⟨rfl, rfl⟩)
  exact ⟨l.length + 3, r, h1, h2⟩

end Go.Proofs.Ytfkbcldeohblpaa.U
