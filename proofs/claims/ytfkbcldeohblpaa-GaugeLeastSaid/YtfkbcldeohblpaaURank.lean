/- gauge.Compare as the order of a rank; the document's Kind, Bits and Compare are gauge's: plain Lean. -/
import Derived.Test.YtfkbcldeohblpaaUComp
namespace Go.Proofs.Ytfkbcldeohblpaa.U
open Go.RowKit Go.Proofs.YtfkbcldeohblpaaW.PrintWords Go.Proofs.YtfkbcldeohblpaaW.PrintLast Go.Proofs.YtfkbcldeohblpaaW.PrintMore
set_option linter.unusedVariables false
set_option linter.unusedSimpArgs false

/-- Where a number stands among all: NaN last, -0 ahead of 0. -/
def rank (b : Nat) : Int := if isNaN b = true then 18446744073709551616 else if minus b = true then -((rung b : Nat) : Int) - 1 else ((rung b : Nat) : Int)

theorem rung_le (b : Nat) : rung b < 9223372036854775808 := by unfold rung; omega

theorem comp_rank (a b : Nat) : comp a b = if rank a < rank b then -1 else if rank b < rank a then 1 else 0 := by
  have ha := rung_le a
  have hb := rung_le b
  unfold comp cmpKey rank
  rw [key_abs, key_abs]
  cases isNaN a <;> cases isNaN b <;> cases minus a <;> cases minus b <;> simp only [if_true, if_false, Bool.false_eq_true, fl] <;> (try (repeat' split)) <;> omega

theorem comp_self_neg (a b : Nat) : comp b a = -comp a b := by
  rw [comp_rank, comp_rank]
  split <;> split <;> (try split) <;> omega

theorem comp_small (a b : Nat) : comp a b = -1 ∨ comp a b = 0 ∨ comp a b = 1 := by
  rw [comp_rank]
  split
  · exact Or.inl rfl
  · split
    · exact Or.inr (Or.inr rfl)
    · exact Or.inr (Or.inl rfl)

theorem comp_trans (a b c : Nat) (h1 : ¬ comp a b > 0) (h2 : ¬ comp b c > 0) : comp a c ≤ 0 := by
  rw [comp_rank] at *
  (repeat' split at h1) <;> (repeat' split at h2) <;> (repeat' split) <;> omega

/-- The bits that are told. -/
def bitsOf (b : Nat) : Int := if isNaN b = true then 9221120237041090560 else (b : Int)

theorem bits_split {b : Nat} (hb : b < 18446744073709551616) : b = rung b + (if minus b = true then 9223372036854775808 else 0) := by
  unfold rung minus
  simp only [decide_eq_true_eq]
  split <;> omega

theorem comp_bits {a b : Nat} (ha : a < 18446744073709551616) (hb : b < 18446744073709551616) : comp a b = 0 ↔ bitsOf a = bitsOf b := by
  have h1 := bits_split ha
  have h2 := bits_split hb
  have l1 := rung_le a
  have l2 := rung_le b
  rw [comp_rank]
  unfold rank bitsOf
  have n1 : isNaN a = true ∨ (isNaN a = false ∧ a ≠ 9221120237041090560) := by
    cases h : isNaN a
    · right
      refine ⟨rfl, ?_⟩
      intro e
      subst e
      exact absurd h (by decide +kernel)
    · left; rfl
  have n2 : isNaN b = true ∨ (isNaN b = false ∧ b ≠ 9221120237041090560) := by
    cases h : isNaN b
    · right
      refine ⟨rfl, ?_⟩
      intro e
      subst e
      exact absurd h (by decide +kernel)
    · left; rfl
  generalize rung a = ra at *
  generalize rung b = rb at *
  rcases n1 with ea | ⟨ea, n1⟩ <;> rcases n2 with eb | ⟨eb, n2⟩ <;> rw [ea, eb] <;> cases ma : minus a <;> cases mb : minus b <;> rw [ma] at h1 <;> rw [mb] at h2 <;> simp only [if_true, if_false, Bool.false_eq_true] at h1 h2 ⊢ <;> (repeat' split) <;> first | omega | (simp; done)

theorem ref_exponent (b : Nat) (hb : b < 18446744073709551616) : oakumref01_exponent.f (b : Int) = some ((rung b / 4503599627370496 : Nat) : Int) := by
  unfold oakumref01_exponent.f
  congr 1
  have e1 : Int.tdiv (b : Int) 4503599627370496 = ((b / 4503599627370496 : Nat) : Int) := by rw [Int.tdiv_eq_ediv_of_nonneg (by omega)]; rfl
  have e2 : IntKind.u64.wrap ((b / 4503599627370496 : Nat) : Int) = ((b / 4503599627370496 : Nat) : Int) := by rw [IntKind.wrap_u64]; omega
  have e3 : Int.tmod ((b / 4503599627370496 : Nat) : Int) 2048 = ((b / 4503599627370496 % 2048 : Nat) : Int) := by rw [Int.tmod_eq_emod_of_nonneg (by omega)]; rfl
  have e4 : b / 4503599627370496 % 2048 = rung b / 4503599627370496 := by unfold rung; omega
  rw [e1, e2, e3, e4]
  have := rung_le b
  unfold wrap64
  omega

theorem ref_fraction (b : Nat) : oakumref01_fraction.f (b : Int) = some ((rung b % 4503599627370496 : Nat) : Int) := by
  unfold oakumref01_fraction.f
  congr 1
  rw [Int.tmod_eq_emod_of_nonneg (by omega)]
  unfold rung
  omega

theorem ref_kind (b : Nat) (hb : b < 18446744073709551616) : oakumref01_Kind.f 2 (b : Int) = some (kind b) := by
  have hl := rung_le b
  have hn : isNaN b = decide (9218868437227405312 < rung b) := rfl
  unfold oakumref01_Kind.f kind
  rw [ref_exponent b hb, hn]
  dsimp only [Option.bind_some]
  simp only [oakumref01_Kind.j0, oakumref01_Kind.j1, ref_exponent b hb, ref_fraction, Option.bind_some]
  generalize rung b = g at *
  by_cases c1 : g / 4503599627370496 = 2047
  · have d1 : ((g / 4503599627370496 : Nat) : Int) = 2047 := by omega
    rw [if_pos d1, if_pos d1]
    by_cases c2 : g % 4503599627370496 = 0
    · obtain rfl : g = 9218868437227405312 := by omega
      rfl
    · have d2 : (((g % 4503599627370496 : Nat) : Int) != 0) = true := by rw [bne_iff_ne]; omega
      have d3 : decide (9218868437227405312 < g) = true := decide_eq_true (by omega)
      rw [if_pos d2, if_pos d3]
  · have d1 : ¬ ((g / 4503599627370496 : Nat) : Int) = 2047 := by omega
    have d3 : ¬ decide (9218868437227405312 < g) = true := by rw [decide_eq_true_eq]; omega
    have d4 : ¬ g = 9218868437227405312 := by omega
    rw [if_neg d1, if_neg (by decide), if_neg d1, if_neg d3, if_neg d4]
    by_cases c3 : g / 4503599627370496 = 0
    · have d5 : ((g / 4503599627370496 : Nat) : Int) = 0 := by omega
      rw [if_pos d5]
      by_cases c4 : g % 4503599627370496 = 0
      · obtain rfl : g = 0 := by omega
        rfl
      · have d6 : ¬ (((g % 4503599627370496 : Nat) : Int) == 0) = true := by rw [beq_iff_eq]; omega
        have d7 : ¬ g = 0 := by omega
        have d8 : g < 4503599627370496 := by omega
        rw [if_neg d6, if_pos d5, if_neg d7, if_pos d8]
    · have d5 : ¬ ((g / 4503599627370496 : Nat) : Int) = 0 := by omega
      have d7 : ¬ g = 0 := by omega
      have d8 : ¬ g < 4503599627370496 := by omega
      rw [if_neg d5, if_neg (by decide), if_neg d5, if_neg d7, if_neg d8]

theorem ref_bits (b : Nat) (hb : b < 18446744073709551616) : oakumref01_Bits.f 2 (b : Int) = some (bitsOf b) := by
  unfold oakumref01_Bits.f bitsOf
  rw [ref_kind b hb]
  dsimp only [Option.bind_some]
  unfold kind
  cases isNaN b
  · simp only [Bool.false_eq_true, if_false]
    (repeat' split) <;> first | rfl | omega
  · simp

theorem ref_comp (a b : Nat) (ha : a < 18446744073709551616) (hb : b < 18446744073709551616) : oakumref01_Compare.f 2 (a : Int) (b : Int) = some (comp a b) := by
  have h1 := bits_split ha
  have h2 := bits_split hb
  have l1 := rung_le a
  have l2 := rung_le b
  have hm : ∀ x : Nat, oakumref01_Minus.f (x : Int) = some (minus x) := fun x => by
    unfold oakumref01_Minus.f minus
    congr 1
    rw [decide_eq_decide]
    omega
  have hk : ∀ x : Nat, (kind x = 0) ↔ isNaN x = true := fun x => by
    unfold kind
    cases isNaN x
    · simp only [Bool.false_eq_true, if_false, iff_false]
      (repeat' split) <;> omega
    · simp
  unfold oakumref01_Compare.f
  rw [ref_bits a ha, ref_bits b hb]
  dsimp only [Option.bind_some]
  by_cases c0 : bitsOf a = bitsOf b
  · rw [if_pos c0, (comp_bits ha hb).mpr c0]
  · rw [if_neg c0, ref_kind a ha, ref_kind b hb]
    have hc : comp a b ≠ 0 := fun h => c0 ((comp_bits ha hb).mp h)
    dsimp only [Option.bind_some]
    rw [comp_rank] at hc ⊢
    unfold rank at *
    cases ea : isNaN a
    · rw [if_neg (by rw [hk]; simp [ea])]
      rw [ea] at hc
      cases eb : isNaN b
      · rw [if_neg (by rw [hk]; simp [eb])]
        rw [eb] at hc
        simp only [hm, Option.bind_some]
        simp only [Bool.false_eq_true, if_false] at hc ⊢
        by_cases lt : (a : Int) < (b : Int)
        · rw [decide_eq_true lt]
          cases ma : minus a <;> cases mb : minus b <;> rw [ma] at h1 hc <;> rw [mb] at h2 hc <;> simp at h1 h2 hc ⊢ <;> (repeat' split) <;> first | rfl | omega
        · rw [decide_eq_false lt]
          cases ma : minus a <;> cases mb : minus b <;> rw [ma] at h1 hc <;> rw [mb] at h2 hc <;> simp at h1 h2 hc ⊢ <;> (repeat' split) <;> first | rfl | omega
      · rw [if_pos ((hk b).mpr eb), if_neg (show ¬ (false = true) by decide), if_pos (show (true = true) by decide)]
        rw [if_pos (by split <;> omega)]
    · rw [if_pos ((hk a).mpr ea)]
      rw [ea] at hc
      cases eb : isNaN b
      · rw [if_pos (show (true = true) by decide), if_neg (show ¬ (false = true) by decide), if_neg (by split <;> omega), if_pos (by split <;> omega)]
      · rw [eb] at hc
        simp at hc

end Go.Proofs.Ytfkbcldeohblpaa.U
