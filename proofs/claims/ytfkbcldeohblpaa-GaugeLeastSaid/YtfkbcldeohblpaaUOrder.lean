/- The order of two float64 values, told by their bits: by a whole number for each, the rung with its sign. Plain Lean, no program. -/
import Ieee.Arith
namespace Go.Proofs.Ytfkbcldeohblpaa.U
set_option linter.unusedVariables false
set_option linter.unusedSimpArgs false
open Ieee

/-- The rung: the bits without the sign. -/
def rung (b : Nat) : Nat := b % 9223372036854775808

/-- The sign. -/
def minus (b : Nat) : Bool := decide (b ≥ 9223372036854775808)

/-- Is it NaN? -/
def isNaN (b : Nat) : Bool := decide (9218868437227405312 < rung b)

/-- The rung with its sign. -/
def key (b : Nat) : Int := if b ≥ 9223372036854775808 then -((rung b : Nat) : Int) else ((rung b : Nat) : Int)

/-- The amount of a finite rung, in units of 2^-1074. -/
def val (g : Nat) : Nat := if g < 4503599627370496 then g else (4503599627370496 + g % 4503599627370496) * 2 ^ (g / 4503599627370496 - 1)

theorem val_lt {g h : Nat} (e : g < h) : val g < val h := by
  unfold val
  by_cases h1 : g < 4503599627370496
  · rw [if_pos h1]
    by_cases h2 : h < 4503599627370496
    · rw [if_pos h2]; exact e
    · rw [if_neg h2]
      have : 1 ≤ 2 ^ (h / 4503599627370496 - 1) := Nat.one_le_two_pow
      have := Nat.mul_le_mul (Nat.le_add_right 4503599627370496 (h % 4503599627370496)) this
      omega
  · rw [if_neg h1, if_neg (by omega)]
    by_cases h3 : g / 4503599627370496 = h / 4503599627370496
    · rw [h3]
      refine Nat.mul_lt_mul_of_pos_right ?_ (Nat.two_pow_pos _)
      omega
    · have h4 : g / 4503599627370496 < h / 4503599627370496 := by
        have := Nat.div_le_div_right (c := 4503599627370496) (Nat.le_of_lt e)
        omega
      have h5 : 1 ≤ g / 4503599627370496 := by omega
      have e1 : (4503599627370496 + g % 4503599627370496) * 2 ^ (g / 4503599627370496 - 1) < 9007199254740992 * 2 ^ (g / 4503599627370496 - 1) := by
        refine Nat.mul_lt_mul_of_pos_right ?_ (Nat.two_pow_pos _)
        have := Nat.mod_lt g (show 0 < 4503599627370496 by omega)
        omega
      have e2 : 9007199254740992 * 2 ^ (g / 4503599627370496 - 1) = 4503599627370496 * 2 ^ (g / 4503599627370496) := by
        obtain ⟨k, hk⟩ : ∃ k, g / 4503599627370496 = k + 1 := ⟨g / 4503599627370496 - 1, by omega⟩
        rw [hk, Nat.add_sub_cancel, Nat.pow_succ]
        omega
      have e3 : 4503599627370496 * 2 ^ (g / 4503599627370496) ≤ (4503599627370496 + h % 4503599627370496) * 2 ^ (h / 4503599627370496 - 1) :=
        Nat.mul_le_mul (Nat.le_add_right _ _) (Nat.pow_le_pow_right (by omega) (by omega))
      omega

theorem val_inj {g h : Nat} : val g = val h ↔ g = h := by
  constructor
  · intro e
    rcases Nat.lt_trichotomy g h with k | k | k
    · have := val_lt k; omega
    · exact k
    · have := val_lt k; omega
  · rintro rfl; rfl

theorem val_lt_iff {g h : Nat} : val g < val h ↔ g < h := by
  constructor
  · intro e
    rcases Nat.lt_trichotomy g h with k | k | k
    · exact k
    · subst k; omega
    · have := val_lt k; omega
  · exact val_lt

/-- The place of a finite rung's last digit, above 2^-1074. -/
def place (g : Nat) : Nat := if g < 4503599627370496 then 0 else g / 4503599627370496 - 1

/-- The digits of a finite rung. -/
def mag (g : Nat) : Nat := if g < 4503599627370496 then g else 4503599627370496 + g % 4503599627370496

theorem val_eq (g : Nat) : val g = mag g * 2 ^ place g := by
  unfold val mag place
  split <;> simp

theorem leastPlace_eq : double.leastPlace = -1074 := by decide +kernel
theorem binade_eq : double.binade = 4503599627370496 := by decide +kernel
theorem infRung_eq : double.infRung = 9218868437227405312 := by decide +kernel
theorem signWeight_eq : double.signWeight = 9223372036854775808 := by decide +kernel

theorem neg_eq {b : Nat} (h : b < 18446744073709551616) : (b / 9223372036854775808 % 2 == 1) = minus b := by
  unfold minus
  rw [Bool.eq_iff_iff]
  simp only [beq_iff_eq, decide_eq_true_eq]
  omega

theorem read_number {b : Nat} (h : b < 18446744073709551616) (hg : rung b < 9218868437227405312) :
    double.read b = .number (minus b) (mag (rung b)) (-1074 + (place (rung b) : Nat)) := by
  unfold Format.read
  dsimp only
  rw [signWeight_eq, binade_eq, infRung_eq, leastPlace_eq, neg_eq h]
  change (if rung b < _ then _ else _) = _
  unfold mag place
  by_cases h1 : rung b < 4503599627370496
  · rw [if_pos h1, if_pos h1, if_pos h1]; rfl
  · rw [if_neg h1, if_neg h1, if_neg h1]
    change (if rung b < _ then Datum.number _ (_ + rung b % _) (_ + ((rung b / _ - 1 : Nat) : Int)) else _) = _
    rw [if_pos hg]

theorem read_inf {b : Nat} (h : b < 18446744073709551616) (hg : rung b = 9218868437227405312) : double.read b = .infinity (minus b) := by
  unfold Format.read
  dsimp only
  rw [signWeight_eq, binade_eq, infRung_eq, leastPlace_eq, neg_eq h]
  have e : b % 9223372036854775808 = 9218868437227405312 := hg
  rw [e]
  rfl

theorem read_nan {b : Nat} (h : b < 18446744073709551616) (hg : isNaN b = true) : ∃ t, double.read b = .nan (minus b) t := by
  unfold Format.read
  dsimp only
  rw [signWeight_eq, binade_eq, infRung_eq, leastPlace_eq, neg_eq h]
  have e : 9218868437227405312 < b % 9223372036854775808 := of_decide_eq_true hg
  rw [if_neg (by omega), if_neg (by omega), if_neg (by omega)]
  exact ⟨_, rfl⟩

theorem order_nan_left {a b : Nat} (ha : a < 18446744073709551616) (hn : isNaN a = true) : double.order a b = none := by
  obtain ⟨t, e⟩ := read_nan ha hn
  unfold Format.order
  rw [e]
  rfl

theorem order_nan_right {a b : Nat} (hb : b < 18446744073709551616) (hn : isNaN b = true) : double.order a b = none := by
  obtain ⟨t, e⟩ := read_nan hb hn
  unfold Format.order
  rw [e]
  cases double.read a <;> rfl

theorem cmp_of {a b c d : Int} (h1 : a < b ↔ c < d) (h2 : a = b ↔ c = d) : compare a b = compare c d := by
  simp only [compare, compareOfLessAndEq]
  by_cases e1 : a < b
  · rw [if_pos e1, if_pos (h1.mp e1)]
  · rw [if_neg e1, if_neg (fun k => e1 (h1.mpr k))]
    by_cases e2 : a = b
    · rw [if_pos e2, if_pos (h2.mp e2)]
    · rw [if_neg e2, if_neg (fun k => e2 (h2.mpr k))]

theorem key_abs (b : Nat) : key b = if minus b = true then -((rung b : Nat) : Int) else ((rung b : Nat) : Int) := by
  unfold key minus
  simp only [decide_eq_true_eq]

theorem signed_up (s : Bool) (m i d : Nat) : signed s m (i + d) = signed s m i * (2 ^ d : Nat) := by
  unfold signed
  rw [Nat.shiftLeft_add, Nat.shiftLeft_eq (m <<< i)]
  split
  · push_cast; rw [Int.neg_mul]
  · push_cast; rfl

/-- The amount with its sign. -/
def sval (s : Bool) (g : Nat) : Int := if s = true then -((val g : Nat) : Int) else ((val g : Nat) : Int)

theorem sval_signed (s : Bool) (g : Nat) : signed s (mag g) (place g) = sval s g := by
  unfold signed sval
  rw [val_eq, Nat.shiftLeft_eq]

theorem order_numbers {a b : Nat} (ha : a < 18446744073709551616) (hb : b < 18446744073709551616)
    (h1 : rung a < 9218868437227405312) (h2 : rung b < 9218868437227405312) :
    double.order a b = some (compare (sval (minus a) (rung a)) (sval (minus b) (rung b))) := by
  unfold Format.order
  rw [read_number ha h1, read_number hb h2]
  unfold Datum.order
  dsimp only
  congr 1
  generalize hi : (-1074 + (place (rung a) : Int)) = i
  generalize hj : (-1074 + (place (rung b) : Int)) = j
  obtain ⟨d, hd⟩ : ∃ d : Nat, min i j = -1074 + (d : Int) := ⟨(min i j + 1074).toNat, by omega⟩
  have e1 : place (rung a) = (i - min i j).toNat + d := by omega
  have e2 : place (rung b) = (j - min i j).toNat + d := by omega
  rw [← sval_signed, ← sval_signed, e1, e2, signed_up, signed_up]
  have hp : (0 : Int) < ((2 ^ d : Nat) : Int) := by have := Nat.two_pow_pos d; omega
  refine cmp_of ?_ ?_
  · exact ⟨fun k => Int.mul_lt_mul_of_pos_right k hp, fun k => Int.lt_of_mul_lt_mul_right k (Int.le_of_lt hp)⟩
  · exact ⟨fun k => by rw [k], fun k => Int.eq_of_mul_eq_mul_right (by omega) k⟩

theorem sval_cmp (s t : Bool) (g h : Nat) : compare (sval s g) (sval t h) = compare (if s = true then -(g : Int) else (g : Int)) (if t = true then -(h : Int) else (h : Int)) := by
  have l1 := @val_lt_iff g h
  have l2 := @val_lt_iff h g
  have i1 := @val_inj g h
  have z1 : val g = 0 ↔ g = 0 := @val_inj g 0
  have z2 : val h = 0 ↔ h = 0 := @val_inj h 0
  unfold sval
  cases s <;> cases t <;> simp only [if_true, if_false, Bool.false_eq_true] <;> refine cmp_of ?_ ?_ <;> omega

/-- THE ORDER of two that are no NaN, by their keys. -/
theorem order_key {a b : Nat} (ha : a < 18446744073709551616) (hb : b < 18446744073709551616) (na : isNaN a = false) (nb : isNaN b = false) :
    double.order a b = some (compare (key a) (key b)) := by
  have ga : rung a ≤ 9218868437227405312 := by simpa [isNaN] using na
  have gb : rung b ≤ 9218868437227405312 := by simpa [isNaN] using nb
  rw [key_abs, key_abs]
  by_cases h1 : rung a < 9218868437227405312
  · by_cases h2 : rung b < 9218868437227405312
    · rw [order_numbers ha hb h1 h2, sval_cmp]
    · unfold Format.order
      rw [read_number ha h1, read_inf hb (by omega)]
      unfold Datum.order
      dsimp only
      congr 1
      have e : rung b = 9218868437227405312 := by omega
      rw [e]
      cases minus b <;> simp only [if_true, if_false, Bool.false_eq_true] <;> simp only [compare, compareOfLessAndEq] <;> cases minus a <;> simp only [if_true, if_false, Bool.false_eq_true]
      · rw [if_pos (by omega)]
      · rw [if_pos (by omega)]
      · rw [if_neg (by omega), if_neg (by omega)]
      · rw [if_neg (by omega), if_neg (by omega)]
  · by_cases h2 : rung b < 9218868437227405312
    · unfold Format.order
      rw [read_inf ha (by omega), read_number hb h2]
      unfold Datum.order
      dsimp only
      congr 1
      have e : rung a = 9218868437227405312 := by omega
      rw [e]
      cases minus a <;> simp only [if_true, if_false, Bool.false_eq_true] <;> simp only [compare, compareOfLessAndEq] <;> cases minus b <;> simp only [if_true, if_false, Bool.false_eq_true]
      · rw [if_neg (by omega), if_neg (by omega)]
      · rw [if_neg (by omega), if_neg (by omega)]
      · rw [if_pos (by omega)]
      · rw [if_pos (by omega)]
    · unfold Format.order
      rw [read_inf ha (by omega), read_inf hb (by omega)]
      unfold Datum.order
      dsimp only
      congr 1
      have e : rung a = 9218868437227405312 := by omega
      have e' : rung b = 9218868437227405312 := by omega
      rw [e, e']
      cases minus a <;> cases minus b <;> rfl

/-! ## The comparisons as the language asks them -/
def fLt (a b : Nat) : Bool := double.order a b == some .lt
def fGt (a b : Nat) : Bool := double.order a b == some .gt
def fEq (a b : Nat) : Bool := double.order a b == some .eq

theorem fLt_nan {a b : Nat} (ha : a < 18446744073709551616) (hb : b < 18446744073709551616) (h : isNaN a = true ∨ isNaN b = true) : fLt a b = false := by
  unfold fLt
  rcases h with h | h
  · rw [order_nan_left ha h]; rfl
  · rw [order_nan_right hb h]; rfl
theorem fGt_nan {a b : Nat} (ha : a < 18446744073709551616) (hb : b < 18446744073709551616) (h : isNaN a = true ∨ isNaN b = true) : fGt a b = false := by
  unfold fGt
  rcases h with h | h
  · rw [order_nan_left ha h]; rfl
  · rw [order_nan_right hb h]; rfl
theorem fEq_nan {a b : Nat} (ha : a < 18446744073709551616) (hb : b < 18446744073709551616) (h : isNaN a = true ∨ isNaN b = true) : fEq a b = false := by
  unfold fEq
  rcases h with h | h
  · rw [order_nan_left ha h]; rfl
  · rw [order_nan_right hb h]; rfl

theorem some_beq (o p : Ordering) : (some o == some p) = (o == p) := rfl

theorem fLt_key {a b : Nat} (ha : a < 18446744073709551616) (hb : b < 18446744073709551616) (na : isNaN a = false) (nb : isNaN b = false) : fLt a b = decide (key a < key b) := by
  unfold fLt
  rw [order_key ha hb na nb]
  simp only [compare, compareOfLessAndEq]
  by_cases h : key a < key b
  · rw [if_pos h, decide_eq_true h]; rfl
  · rw [if_neg h, decide_eq_false h]; split <;> rfl
theorem fGt_key {a b : Nat} (ha : a < 18446744073709551616) (hb : b < 18446744073709551616) (na : isNaN a = false) (nb : isNaN b = false) : fGt a b = decide (key b < key a) := by
  unfold fGt
  rw [order_key ha hb na nb]
  simp only [compare, compareOfLessAndEq]
  by_cases h : key a < key b
  · rw [if_pos h, decide_eq_false (by omega)]; rfl
  · rw [if_neg h]
    by_cases h2 : key a = key b
    · rw [if_pos h2, decide_eq_false (by omega)]; rfl
    · rw [if_neg h2, decide_eq_true (by omega)]; rfl
theorem fEq_key {a b : Nat} (ha : a < 18446744073709551616) (hb : b < 18446744073709551616) (na : isNaN a = false) (nb : isNaN b = false) : fEq a b = decide (key a = key b) := by
  unfold fEq
  rw [order_key ha hb na nb]
  simp only [compare, compareOfLessAndEq]
  by_cases h : key a < key b
  · rw [if_pos h, decide_eq_false (by omega)]; rfl
  · rw [if_neg h]
    by_cases h2 : key a = key b
    · rw [if_pos h2, decide_eq_true h2]; rfl
    · rw [if_neg h2, decide_eq_false h2]; rfl

theorem fEq_self {a : Nat} (ha : a < 18446744073709551616) : fEq a a = !isNaN a := by
  cases h : isNaN a
  · rw [fEq_key ha ha h h, decide_eq_true rfl]; rfl
  · rw [fEq_nan ha ha (Or.inl h)]; rfl

end Go.Proofs.Ytfkbcldeohblpaa.U
