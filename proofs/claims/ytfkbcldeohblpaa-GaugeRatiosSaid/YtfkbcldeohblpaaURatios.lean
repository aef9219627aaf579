/- The quotient of two whole numbers of amounts up to 2^20, written as a float: its whole part is theirs, and something is left just where they leave a rest. Plain Lean, no program. -/
import Derived.Test.YtfkbcldeohblpaaURatio
import Derived.Test.YtfkbcldeohblpaaURound
namespace Go.Proofs.Ytfkbcldeohblpaa.U
set_option linter.unusedVariables false
set_option linter.unusedSimpArgs false
open Ieee

/-- A whole number of either sign, as a float. -/
theorem float_int (a : Int) (h0 : a ≠ 0) (h : a.natAbs ≤ 1048576) : ∃ g, floatOfInt .f64 a = double.word (decide (a < 0)) g ∧ 4503599627370496 ≤ g ∧ g < 9218868437227405312 ∧ val g = a.natAbs * 2 ^ unitE := by
  have hp : 0 < a.natAbs := by omega
  have hL : a.natAbs.log2 ≤ 52 := by
    rcases Nat.lt_or_ge 52 a.natAbs.log2 with c | c
    · have h1 := (log_bounds hp).1
      have : 2 ^ 53 ≤ 2 ^ a.natAbs.log2 := Nat.pow_le_pow_right (by omega) (by omega)
      have e : (2 : Nat) ^ 53 = 9007199254740992 := rfl
      omega
    · exact c
  obtain ⟨g, e, g1, g2⟩ := nearest_int (decide (a < 0)) a.natAbs hp (by omega) (by rw [show a.natAbs.log2 - 52 = 0 by omega]; exact Nat.mod_one _)
  refine ⟨g, e, ?_, g1, g2⟩
  rcases Nat.lt_or_ge g 4503599627370496 with c | c
  · have e2 : val g = g := by unfold val; rw [if_pos c]
    have h3 : 2 ^ 52 ≤ 2 ^ unitE := Nat.pow_le_pow_right (by omega) (by unfold unitE; omega)
    have e3 : (2 : Nat) ^ 52 = 4503599627370496 := rfl
    have := Nat.mul_le_mul_right (2 ^ unitE) (show 1 ≤ a.natAbs by omega)
    omega
  · exact c

theorem mag_ge {g : Nat} (h : 4503599627370496 ≤ g) : 4503599627370496 ≤ mag g := by unfold mag; rw [if_neg (by omega)]; omega

theorem mag_log {g : Nat} (h : 4503599627370496 ≤ g) : (mag g).log2 = 52 := by
  have h1 := mag_ge h
  have h2 := mag_lt g
  rw [Nat.log2_eq_iff (by omega)]
  have e1 : (2 : Nat) ^ 52 = 4503599627370496 := rfl
  have e2 : (2 : Nat) ^ (52 + 1) = 9007199254740992 := rfl
  omega

theorem place_bounds {g A : Nat} (hn : 4503599627370496 ≤ g) (h : val g = A * 2 ^ unitE) (h0 : 1 ≤ A) (h1 : A ≤ 1048576) : 1022 ≤ place g ∧ place g ≤ 1042 := by
  have m1 := mag_ge hn
  have m2 := mag_lt g
  rw [val_eq] at h
  constructor
  · rcases Nat.lt_or_ge (place g) 1022 with c | c
    · have l1 : 2 ^ (53 + place g) ≤ 2 ^ unitE := Nat.pow_le_pow_right (by omega) (by unfold unitE; omega)
      have l2 : 2 ^ (53 + place g) = 9007199254740992 * 2 ^ place g := by rw [Nat.pow_add]
      have l3 := Nat.mul_lt_mul_of_pos_right m2 (Nat.two_pow_pos (place g))
      have l4 := Nat.mul_le_mul_right (2 ^ unitE) h0
      omega
    · exact c
  · rcases Nat.lt_or_ge 1042 (place g) with c | c
    · have l1 : 2 ^ (21 + unitE) ≤ 2 ^ (52 + place g) := Nat.pow_le_pow_right (by omega) (by unfold unitE; omega)
      have l2 : 2 ^ (52 + place g) = 4503599627370496 * 2 ^ place g := by rw [Nat.pow_add]
      have l3 : 2 ^ (21 + unitE) = 2097152 * 2 ^ unitE := by rw [Nat.pow_add]
      have l4 := Nat.mul_le_mul_right (2 ^ place g) m1
      have l5 := Nat.mul_le_mul_right (2 ^ unitE) h1
      have l6 := Nat.two_pow_pos unitE
      omega
    · exact c

theorem off_plain (m m' A B D K X Y Z Q U F V : Nat) (e1 : m * Z = A * U) (e2 : m' * Y = B * U) (e3 : D = m * F) (e4 : X * Y = Z * Q) (e5 : U = 2 * F * Q) (eV : V = K * X) :
    (V * B) * U = (K * m') * (Z * Q) ∧ (A * U) * U = 2 * D * (Z * Q) ∧ m' * (Z * Q) = B * X * U := by
  refine ⟨?_, ?_, ?_⟩
  · rw [eV, ← e4]
    calc K * X * B * U = K * X * (B * U) := by ac_rfl
      _ = K * X * (m' * Y) := by rw [e2]
      _ = K * m' * (X * Y) := by ac_rfl
  · rw [e3, ← e1, e5]
    ac_rfl
  · rw [← e4]
    calc m' * (X * Y) = X * (m' * Y) := by ac_rfl
      _ = X * (B * U) := by rw [e2]
      _ = B * X * U := by ac_rfl

/-- unitE less 55. -/
def lowE : Nat := 1019

/-- How far the word is off the quotient: in amounts. -/
theorem off_close (m m' P P' A B D K w V : Nat) (e1 : m * 2 ^ P = A * 2 ^ unitE) (e2 : m' * 2 ^ P' = B * 2 ^ unitE) (e3 : D = m * 2 ^ 54) (e4 : w + P' = P + lowE) (eV : V = K * 2 ^ w) :
    (V * B) * 2 ^ unitE = (K * m') * 2 ^ (P + lowE) ∧ (A * 2 ^ unitE) * 2 ^ unitE = 2 * D * 2 ^ (P + lowE) ∧ m' * 2 ^ (P + lowE) = B * 2 ^ w * 2 ^ unitE := by
  rw [Nat.pow_add 2 P lowE]
  refine off_plain m m' A B D K (2 ^ w) (2 ^ P') (2 ^ P) (2 ^ lowE) (2 ^ unitE) (2 ^ 54) V e1 e2 e3 ?_ ?_ eV
  · rw [← Nat.pow_add, ← Nat.pow_add, e4]
  · have e6 : (2 : Nat) * 2 ^ 54 = 2 ^ 55 := rfl
    rw [e6, ← Nat.pow_add, show 55 + lowE = unitE from rfl]

/-- The whole part and the rest, of an amount that stands off by less than one. -/
theorem whole_close (V A B U : Nat) (hU : 0 < U) (hB : 1 ≤ B) (h1 : V * B < A * U + U) (h2 : A * U < V * B + U) (hx : A % B = 0 → V * B = A * U) :
    V / U = A / B ∧ decide (V % U ≠ 0) = decide (A % B ≠ 0) := by
  have hs := Nat.div_add_mod A B
  have hr := Nat.mod_lt A hB
  generalize A / B = q at *
  generalize A % B = r at *
  by_cases z : r = 0
  · have e := hx z
    subst z
    rw [Nat.add_zero] at hs
    subst hs
    have e2 : V = q * U := by
      refine Nat.eq_of_mul_eq_mul_right hB ?_
      rw [e]; ac_rfl
    subst e2
    rw [Nat.mul_div_cancel _ hU, Nat.mul_mod_left]
    exact ⟨rfl, rfl⟩
  · subst hs
    have a1 : q * U < V := by
      refine Nat.lt_of_mul_lt_mul_right (a := B) ?_
      have e : (B * q + r) * U = q * U * B + r * U := by rw [Nat.add_mul]; congr 1; ac_rfl
      have : 1 * U ≤ r * U := Nat.mul_le_mul_right U (by omega)
      omega
    have a2 : V < (q + 1) * U := by
      refine Nat.lt_of_mul_lt_mul_right (a := B) ?_
      have e : (B * q + r) * U + U = (B * q + (r + 1)) * U := by rw [Nat.add_mul, Nat.add_mul, Nat.add_mul r 1, Nat.one_mul, Nat.add_assoc]
      have l : (B * q + (r + 1)) * U ≤ (B * q + B) * U := Nat.mul_le_mul_right U (by omega)
      have e3 : (B * q + B) * U = (q + 1) * U * B := by
        rw [show B * q + B = B * (q + 1) by rw [Nat.mul_add, Nat.mul_one]]; ac_rfl
      omega
    have d : V / U = q := by
      rw [Nat.div_eq_iff hU]
      rw [Nat.add_mul, Nat.one_mul] at a2
      omega
    refine ⟨d, ?_⟩
    rw [decide_eq_decide]
    refine ⟨fun _ => z, fun _ h => ?_⟩
    have := Nat.div_add_mod V U
    rw [d, h, Nat.mul_comm] at this
    omega

theorem quot_bounds {m m' D : Nat} (a1 : 4503599627370496 ≤ m) (a2 : m < 9007199254740992) (b1 : 4503599627370496 ≤ m') (b2 : m' < 9007199254740992) (e : D = m * 2 ^ 54) :
    9007199254740992 ≤ D / m' ∧ D / m' < 36028797018963968 := by
  have e54 : (2 : Nat) ^ 54 = 18014398509481984 := rfl
  rw [e54] at e
  constructor
  · rw [Nat.le_div_iff_mul_le (by omega)]
    omega
  · rw [Nat.div_lt_iff_lt_mul (by omega)]
    omega

theorem log_54 {M : Nat} (h1 : 18014398509481984 ≤ M) (h2 : M < 72057594037927936) : M.log2 = 54 ∧ M < 36028797018963968 ∨ M.log2 = 55 ∧ 36028797018963968 ≤ M := by
  have e1 : (2 : Nat) ^ 54 = 18014398509481984 := rfl
  have e2 : (2 : Nat) ^ 55 = 36028797018963968 := rfl
  have e3 : (2 : Nat) ^ 56 = 72057594037927936 := rfl
  rcases Nat.lt_or_ge M 36028797018963968 with c | c
  · left
    refine ⟨?_, c⟩
    rw [Nat.log2_eq_iff (by omega)]
    show 2 ^ 54 ≤ M ∧ M < 2 ^ 55
    omega
  · right
    refine ⟨?_, c⟩
    rw [Nat.log2_eq_iff (by omega)]
    show 2 ^ 55 ≤ M ∧ M < 2 ^ 56
    omega

/-- The rounding: the kept digits, how far they are off, and that they are the digits where these end in three zeros. -/
theorem kept_digits (s : Bool) {M : Nat} (h1 : 18014398509481984 ≤ M) (h2 : M < 72057594037927936) :
    ∃ d k, M.log2 = 52 + d ∧ d ≤ 3 ∧ Toward.even.cut s (M <<< (52 - M.log2)) (M.log2 - 52) = k ∧ 4503599627370496 ≤ k ∧ k ≤ 9007199254740992 ∧ k * 2 ^ d ≤ M + 4 ∧ M ≤ k * 2 ^ d + 4 ∧ (M % 8 = 0 → k * 2 ^ d = M) := by
  have p2 : (2 : Nat) ^ 2 = 4 := rfl
  have p3 : (2 : Nat) ^ 3 = 8 := rfl
  rcases log_54 h1 h2 with ⟨e, b⟩ | ⟨e, b⟩
  · refine ⟨2, _, by rw [e], by omega, rfl, ?_⟩
    rw [e, show 52 - 54 = 0 from rfl, Nat.shiftLeft_zero, show 54 - 52 = 2 from rfl]
    obtain ⟨c1, c2⟩ := cut_even_bound s M 2 (by omega)
    rw [p2] at c1 c2 ⊢
    refine ⟨by omega, by omega, by omega, by omega, fun h => ?_⟩
    rw [cut_even_exact _ _ _ (by rw [p2]; omega), p2]
    omega
  · refine ⟨3, _, by rw [e], by omega, rfl, ?_⟩
    rw [e, show 52 - 55 = 0 from rfl, Nat.shiftLeft_zero, show 55 - 52 = 3 from rfl]
    obtain ⟨c1, c2⟩ := cut_even_bound s M 3 (by omega)
    rw [p3] at c1 c2 ⊢
    refine ⟨by omega, by omega, by omega, by omega, fun h => ?_⟩
    rw [cut_even_exact _ _ _ (by rw [p3]; omega), p3]
    omega

/-- Where the amounts divide, the digits do too, and the quotient ends in zeros. -/
theorem digits_exact (m m' P P' A B D : Nat) (b1 : 0 < m') (e1 : m * 2 ^ P = A * 2 ^ unitE) (e2 : m' * 2 ^ P' = B * 2 ^ unitE) (e3 : D = m * 2 ^ 54) (hp : P ≤ P' + 20) (hd : A % B = 0) :
    D % m' = 0 ∧ (2 * (D / m')) % 8 = 0 := by
  have hs := Nat.div_add_mod A B
  rw [hd, Nat.add_zero] at hs
  generalize A / B = q at *
  obtain ⟨x, hx⟩ : ∃ x, P' + 54 = P + (2 + x) := ⟨P' + 54 - P - 2, by omega⟩
  have k : D * 2 ^ P = (m' * (4 * (q * 2 ^ x))) * 2 ^ P := by
    have f1 : 2 ^ P' * 2 ^ 54 = 2 ^ P * (4 * 2 ^ x) := by
      have : (2 : Nat) ^ 2 = 4 := rfl
      rw [← Nat.pow_add, hx, Nat.pow_add, Nat.pow_add, this]
    rw [e3]
    generalize (2 : Nat) ^ P = X at *
    generalize (2 : Nat) ^ P' = Y at *
    generalize (2 : Nat) ^ 54 = F at *
    generalize (2 : Nat) ^ x = Z at *
    generalize (2 : Nat) ^ unitE = U at *
    calc m * F * X = m * X * F := by ac_rfl
      _ = A * U * F := by rw [e1]
      _ = q * (B * U) * F := by rw [← hs]; ac_rfl
      _ = q * (m' * Y) * F := by rw [e2]
      _ = q * m' * (Y * F) := by ac_rfl
      _ = q * m' * (X * (4 * Z)) := by rw [f1]
      _ = m' * (4 * (q * Z)) * X := by ac_rfl
  have e := Nat.eq_of_mul_eq_mul_right (Nat.two_pow_pos P) k
  rw [e, Nat.mul_mod_right, Nat.mul_div_cancel_left _ b1]
  exact ⟨rfl, by omega⟩

theorem small_off {B w : Nat} (B1 : B ≤ 1048576) (hw : w ≤ 1039) : 5 * (B * 2 ^ w) < 2 ^ unitE := by
  have l1 := Nat.mul_le_mul_right (2 ^ w) B1
  have l2 : 2 ^ (23 + w) ≤ 2 ^ unitE := Nat.pow_le_pow_right (by omega) (by unfold unitE; omega)
  have l3 : 2 ^ (23 + w) = 8388608 * 2 ^ w := by rw [Nat.pow_add]
  have l4 := Nat.two_pow_pos w
  generalize 2 ^ unitE = U at *
  generalize 2 ^ (23 + w) = X at *
  omega

/-- The amount of the word. -/
theorem quot_amount (m m' P P' A B D M K w V : Nat) (b1 : 0 < m') (va : m * 2 ^ P = A * 2 ^ unitE) (vb : m' * 2 ^ P' = B * 2 ^ unitE) (hD : D = m * 2 ^ 54) (hw : w + P' = P + lowE) (hV : V = K * 2 ^ w)
    (hM : M = 2 * (D / m') + (D % m' != 0).toNat) (k3 : K ≤ M + 4) (k4 : M ≤ K + 4) (k5 : M % 8 = 0 → K = M) (hp : P ≤ P' + 20) (hw2 : w ≤ 1039) (B0 : 1 ≤ B) (B1 : B ≤ 1048576) :
    V / 2 ^ unitE = A / B ∧ decide (V % 2 ^ unitE ≠ 0) = decide (A % B ≠ 0) := by
  obtain ⟨o1, o2, o3⟩ := off_close m m' P P' A B D K w V va vb hD hw hV
  obtain ⟨c1, c2⟩ := kept_close D m' M K b1 hM k3 k4
  have small := small_off B1 hw2
  have hZ := Nat.two_pow_pos (P + lowE)
  have hU := Nat.two_pow_pos unitE
  have hx := digits_exact m m' P P' A B D b1 va vb hD hp
  clear va vb hD hw hV hp hw2 B1
  generalize 2 ^ (P + lowE) = Z at *
  generalize 2 ^ unitE = U at *
  have hx : A % B = 0 → V * B = A * U := by
    intro h
    obtain ⟨x1, x2⟩ := hx h
    have hM2 : M = 2 * (D / m') := by rw [hM, x1]; rfl
    have hK := k5 (by rw [hM2]; exact x2)
    refine Nat.eq_of_mul_eq_mul_right hU ?_
    have e := Nat.div_add_mod D m'
    rw [x1, Nat.add_zero] at e
    rw [o1, o2, hK, hM2, Nat.mul_assoc 2 (D / m') m', Nat.mul_comm (D / m') m', e]
  have n1 : V * B ≤ A * U + 5 * (B * 2 ^ w) := by
    refine Nat.le_of_mul_le_mul_right ?_ hU
    have := Nat.mul_le_mul_right Z c1
    rw [Nat.add_mul, Nat.mul_assoc 5, o3, ← o1, ← o2] at this
    rw [Nat.add_mul, Nat.mul_assoc 5]
    exact this
  have n2 : A * U ≤ V * B + 5 * (B * 2 ^ w) := by
    refine Nat.le_of_mul_le_mul_right ?_ hU
    have := Nat.mul_le_mul_right Z c2
    rw [Nat.add_mul, Nat.mul_assoc 5, o3, ← o1, ← o2] at this
    rw [Nat.add_mul, Nat.mul_assoc 5]
    exact this
  exact whole_close V A B U hU B0 (by omega) (by omega) hx

/-- The word of the quotient. -/
theorem quot_word (s t : Bool) (m m' P P' D M w d k : Nat) (la : m.log2 = 52) (lb : m'.log2 = 52) (b1 : 0 < m') (hD : m * 2 ^ 54 = D) (hM : 2 * (D / m') + (D % m' != 0).toNat = M) (M0 : 0 < M)
    (hl : M.log2 = 52 + d) (hk : Toward.even.cut (s ^^ t) (M <<< (52 - M.log2)) (M.log2 - 52) = k) (k2 : k ≤ 9007199254740992) (hw : w + P' = P + 1019) (hdw : d + w ≤ 1100) :
    ((Datum.number s m (-1074 + (P : Int))).quotient (double.fractionBits + 2) (.number t m' (-1074 + (P' : Int)))).map double.write = some (double.word (s ^^ t) ((d + w) * 4503599627370496 + k)) := by
  have e54 : double.fractionBits + 2 = 54 := rfl
  have q : (Datum.number s m (-1074 + (P : Int))).quotient (double.fractionBits + 2) (.number t m' (-1074 + (P' : Int))) = some (.number (s ^^ t) M ((P : Int) - P' - 55)) := by
    unfold Datum.quotient
    dsimp only
    rw [if_neg (by omega), la, lb, e54, show 54 + 52 - 52 = 54 from rfl, Nat.shiftLeft_eq, hD, hM, Option.some.injEq, Datum.number.injEq]
    exact ⟨rfl, rfl, by omega⟩
  rw [q]
  change some (double.nearest (s ^^ t) M ((P : Int) - P' - 55)) = _
  rw [nearest_eq _ _ _ M0 (by rw [hl]; omega), hk, hl]
  have e : (((P : Int) - P' - 55) + ((52 + d : Nat) : Int) + 1022).toNat = d + w := by omega
  rw [e, Nat.min_eq_left (by omega)]

/-- THE QUOTIENT OF TWO WORDS whose amounts are whole. -/
theorem div_words (s t : Bool) (ga gb A B : Nat) (a0 : 4503599627370496 ≤ ga) (a1 : ga < 9218868437227405312) (b0 : 4503599627370496 ≤ gb) (b1 : gb < 9218868437227405312)
    (va : val ga = A * 2 ^ unitE) (vb : val gb = B * 2 ^ unitE) (A0 : 1 ≤ A) (A1 : A ≤ 1048576) (B0 : 1 ≤ B) (B1 : B ≤ 1048576) :
    ∃ g, double.div (double.word s ga) (double.word t gb) = some (double.word (s ^^ t) g) ∧ g < 4886405595696988160 ∧ whole g = A / B ∧ left g = decide (A % B ≠ 0) := by
  have ma0 := mag_ge a0
  have ma1 := mag_lt ga
  have mb0 := mag_ge b0
  have mb1 := mag_lt gb
  have la := mag_log a0
  have lb := mag_log b0
  obtain ⟨pa0, pa1⟩ := place_bounds a0 va A0 A1
  obtain ⟨pb0, pb1⟩ := place_bounds b0 vb B0 B1
  rw [val_eq] at va vb
  have r1 := read_number (b := double.word s ga) (word_lt (by omega)) (by rw [rung_word (by omega)]; exact a1)
  have r2 := read_number (b := double.word t gb) (word_lt (by omega)) (by rw [rung_word (by omega)]; exact b1)
  rw [rung_word (by omega), minus_word (by omega)] at r1 r2
  unfold Format.div
  rw [r1, r2]
  clear r1 r2
  generalize mag ga = m at *
  generalize mag gb = m' at *
  generalize place ga = P at *
  generalize place gb = P' at *
  generalize hD : m * 2 ^ 54 = D
  obtain ⟨q1, q2⟩ := quot_bounds ma0 ma1 mb0 mb1 hD.symm
  generalize hM : 2 * (D / m') + (D % m' != 0).toNat = M
  have hbit : (D % m' != 0).toNat ≤ 1 := by cases (D % m' != 0) <;> decide
  obtain ⟨d, k, hl, hd, hk, k1, k2, k3, k4, k5⟩ := kept_digits (s ^^ t) (M := M) (by omega) (by omega)
  have hw : (P + 1019 - P') + P' = P + 1019 := by omega
  have hw2 : P + 1019 - P' ≤ 1039 := by omega
  generalize P + 1019 - P' = w at *
  refine ⟨(d + w) * 4503599627370496 + k, quot_word s t m m' P P' D M w d k la lb (by omega) hD hM (by omega) hl hk k2 hw (by omega), by omega, ?_⟩
  have hV : val ((d + w) * 4503599627370496 + k) = k * 2 ^ d * 2 ^ w := by rw [val_up _ _ k1 k2, Nat.pow_add, Nat.mul_assoc]
  unfold whole left
  exact quot_amount m m' P P' A B D M (k * 2 ^ d) w _ (by omega) va vb hD.symm hw hV hM.symm k3 k4 k5 (by omega) hw2 B0 B1

end Go.Proofs.Ytfkbcldeohblpaa.U
