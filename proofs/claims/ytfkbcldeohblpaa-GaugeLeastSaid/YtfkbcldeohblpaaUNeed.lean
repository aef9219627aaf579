/- gauge.Need on numbers told by their bits: a contract. -/
import Derived.Test.YtfkbcldeohblpaaULen
import Derived.Test.YtfkbcldeohblpaaUFloor
namespace Go.Proofs.Ytfkbcldeohblpaa.U
open Go.RowKit Go.Proofs.YtfkbcldeohblpaaW.PrintWords Go.Proofs.YtfkbcldeohblpaaW.PrintLast Go.Proofs.YtfkbcldeohblpaaW.PrintMore
set_option linter.unusedVariables false
set_option linter.unusedSimpArgs false
attribute [local go_sem high] binF_eql binF_neq binF_lss binF_gtr binF_geq

/-- An amount times N, rounded down, and whether something is left. -/
def wholeN (g N : Nat) : Nat := val g * N / 2 ^ unitE
def leftN (g N : Nat) : Bool := decide (val g * N % 2 ^ unitE ≠ 0)

/-- What gauge.Need answers. -/
def gneed (b : Nat) (n : Int) : Int × Int :=
  if 9218868437227405312 ≤ rung b ∨ (minus b = true ∧ rung b ≠ 0) ∨ n < 0 ∨ n > 1000 then (0, 1)
  else if 4611686018427387904 ≤ wholeN (rung b) n.toNat then (0, 2)
  else ((wholeN (rung b) n.toNat + (leftN (rung b) n.toNat).toNat : Nat), 0)

set_option maxHeartbeats 8000000
theorem need_bad (b : Nat) (n : Int) (hb : b < 18446744073709551616) (hbad : 9218868437227405312 ≤ rung b ∨ (minus b = true ∧ rung b ≠ 0) ∨ n < 0 ∨ n > 1000) (w : World) :
    Calls Try.prog 47 #[.float .f64 b, .int .i64 n] w fun e w' => e = .returned (.tuple #[.int .i64 0, .int .i64 1]) ∧ Drawn0 w w' := by
  have hkd : kind b = if isNaN b = true then 0 else if rung b = 9218868437227405312 then 1 else if rung b = 0 then 2 else if rung b < 4503599627370496 then 3 else 4 := rfl
  have hk0 : isNaN b = true → kind b = 0 := fun h => by rw [hkd, if_pos h]
  have hk1 : isNaN b = false → rung b = 9218868437227405312 → kind b = 1 := fun h h2 => by rw [hkd, if_neg (by rw [h]; simp), if_pos h2]
  have hk2 : isNaN b = false → ¬ rung b = 9218868437227405312 → ¬ (kind b = 0) ∧ ¬ (kind b = 1) := fun h h2 => by
    rw [hkd, if_neg (by rw [h]; simp), if_neg h2]
    by_cases c : rung b = 0
    · rw [if_pos c]; omega
    · rw [if_neg c]; split <;> omega
  cases hn : isNaN b
  · have hn' := of_decide_eq_false hn
    by_cases c1 : rung b = 9218868437227405312
    · have hk := hk1 hn c1
      clear hkd hk0 hk1 hk2 hbad hn' c1
      go_enter Try.func47, Try.ntmps47
      go_wp2_with (go_at_call 41; refine (kind_calls b hb _).mono ?_; rw [hk]; rintro e w' ⟨rfl, ⟨n1, rfl⟩⟩)
      go_ret2
      exact ⟨rfl, by repeat (first | exact Drawn0.refl _ | apply Drawn0.step)⟩
    · obtain ⟨k0, k1⟩ := hk2 hn c1
      have kf : fLt b 0 = decide (minus b = true ∧ rung b ≠ 0) := by
        rw [fLt_key hb (by omega) hn (by rfl), show key 0 = 0 by rfl, key_abs, decide_eq_decide]
        cases minus b <;> simp <;> omega
      clear hkd hk0 hk1 hk2
      have k0' : (kind b == 0) = false := by rw [beq_eq_false_iff_ne]; exact k0
      have k1' : (kind b == 1) = false := by rw [beq_eq_false_iff_ne]; exact k1
      have hk := kind_calls b hb
      cases hf : fLt b 0
      · rw [hf] at kf
        have kf' := of_decide_eq_false kf.symm
        have hb2 : n < 0 ∨ n > 1000 := by
          rcases hbad with h | h | h
          · omega
          · exact absurd h kf'
          · exact h
        clear kf kf' hbad hn' c1 k0 k1 hn
        generalize kind b = kd at *
        by_cases c2 : n < 0
        · have d2 := decide_eq_true c2
          clear hb2 c2
          go_enter Try.func47, Try.ntmps47
          go_wp2_with (go_at_call 41; refine (hk _).mono ?_; rintro e w' ⟨rfl, ⟨n1, rfl⟩⟩)
          go_ret2
          exact ⟨rfl, by repeat (first | exact Drawn0.refl _ | apply Drawn0.step)⟩
        · have d2 := decide_eq_false c2
          have d3 : decide (1000 < n) = true := decide_eq_true (by omega)
          clear hb2 c2
          go_enter Try.func47, Try.ntmps47
          go_wp2_with (go_at_call 41; refine (hk _).mono ?_; rintro e w' ⟨rfl, ⟨n1, rfl⟩⟩)
          go_ret2
          exact ⟨rfl, by repeat (first | exact Drawn0.refl _ | apply Drawn0.step)⟩
      · clear kf hbad hn' c1 k0 k1 hn
        generalize kind b = kd at *
        go_enter Try.func47, Try.ntmps47
        go_wp2_with (go_at_call 41; refine (hk _).mono ?_; rintro e w' ⟨rfl, ⟨n1, rfl⟩⟩)
        go_ret2
        exact ⟨rfl, by repeat (first | exact Drawn0.refl _ | apply Drawn0.step)⟩
  · have hk := hk0 hn
    clear hkd hk0 hk1 hk2 hbad
    go_enter Try.func47, Try.ntmps47
    go_wp2_with (go_at_call 41; refine (kind_calls b hb _).mono ?_; rw [hk]; rintro e w' ⟨rfl, ⟨n1, rfl⟩⟩)
    go_ret2
    exact ⟨rfl, by repeat (first | exact Drawn0.refl _ | apply Drawn0.step)⟩

theorem need_zero (b N : Nat) (kd M X e : Int) (hk : ∀ w, Calls Try.prog 41 #[.float .f64 b] w fun e w' => e = .returned (.int .i64 kd) ∧ Drawn0 w w') (hp : ∀ w, Calls Try.prog 75 #[.float .f64 b] w fun r w' => r = .returned (.tuple #[.int .u64 M, .int .i64 e]) ∧ Drawn0 w w') (k0 : (kd == 0) = false) (k1 : (kd == 1) = false) (kf : fLt b 0 = false) (c0 : decide ((N : Int) < 0) = false) (c1 : decide ((1000 : Int) < (N : Int)) = false) (hX : IntKind.u64.wrap (M * IntKind.u64.wrap (N : Int)) = X) (w : World) (hx : (X == 0) = true) : Calls Try.prog 47 #[.float .f64 b, .int .i64 (N : Int)] w fun e w' => e = .returned (.tuple #[.int .i64 0, .int .i64 0]) ∧ Drawn0 w w' := by
  go_enter Try.func47, Try.ntmps47
  go_wp2_with (first | (go_at_call 41; refine (hk _).mono ?_; rintro e w' ⟨rfl, ⟨n1, rfl⟩⟩) | (go_at_call 75; refine (hp _).mono ?_; rintro e w' ⟨rfl, ⟨n2, rfl⟩⟩))
  go_ret2
  exact ⟨rfl, by repeat (first | exact Drawn0.refl _ | apply Drawn0.step)⟩

theorem need_far (b N : Nat) (kd M X e d : Int) (hk : ∀ w, Calls Try.prog 41 #[.float .f64 b] w fun e w' => e = .returned (.int .i64 kd) ∧ Drawn0 w w') (hp : ∀ w, Calls Try.prog 75 #[.float .f64 b] w fun r w' => r = .returned (.tuple #[.int .u64 M, .int .i64 e]) ∧ Drawn0 w w') (k0 : (kd == 0) = false) (k1 : (kd == 1) = false) (kf : fLt b 0 = false) (c0 : decide ((N : Int) < 0) = false) (c1 : decide ((1000 : Int) < (N : Int)) = false) (hX : IntKind.u64.wrap (M * IntKind.u64.wrap (N : Int)) = X) (hd : wrap64 (-e) = d) (w : World) (hx : (X == 0) = false) (he : decide (e > 0) = false) (hd2 : decide (d ≥ 64) = true) : Calls Try.prog 47 #[.float .f64 b, .int .i64 (N : Int)] w fun e w' => e = .returned (.tuple #[.int .i64 1, .int .i64 0]) ∧ Drawn0 w w' := by
  go_enter Try.func47, Try.ntmps47
  go_wp2_with (first | (go_at_call 41; refine (hk _).mono ?_; rintro e w' ⟨rfl, ⟨n1, rfl⟩⟩) | (go_at_call 75; refine (hp _).mono ?_; rintro e w' ⟨rfl, ⟨n2, rfl⟩⟩))
  go_ret2
  exact ⟨rfl, by repeat (first | exact Drawn0.refl _ | apply Drawn0.step)⟩

theorem need_big (b N : Nat) (kd M X e d : Int) (hk : ∀ w, Calls Try.prog 41 #[.float .f64 b] w fun e w' => e = .returned (.int .i64 kd) ∧ Drawn0 w w') (hp : ∀ w, Calls Try.prog 75 #[.float .f64 b] w fun r w' => r = .returned (.tuple #[.int .u64 M, .int .i64 e]) ∧ Drawn0 w w') (k0 : (kd == 0) = false) (k1 : (kd == 1) = false) (kf : fLt b 0 = false) (c0 : decide ((N : Int) < 0) = false) (c1 : decide ((1000 : Int) < (N : Int)) = false) (hX : IntKind.u64.wrap (M * IntKind.u64.wrap (N : Int)) = X) (hd : wrap64 (-e) = d) (w : World) (L : Int) (hx : (X == 0) = false) (he : decide (e > 0) = true) (hl : ∀ w, Calls Try.prog 76 #[.int .u64 X] w fun r w' => r = .returned (.int .i64 L) ∧ Drawn0 w w') (hL : decide (wrap64 (L + e) > 62) = true) :
    Calls Try.prog 47 #[.float .f64 b, .int .i64 (N : Int)] w fun e w' => e = .returned (.tuple #[.int .i64 0, .int .i64 2]) ∧ Drawn0 w w' := by
  go_enter Try.func47, Try.ntmps47
  go_wp2_with (first | (go_at_call 41; refine (hk _).mono ?_; rintro e w' ⟨rfl, ⟨n1, rfl⟩⟩) | (go_at_call 75; refine (hp _).mono ?_; rintro e w' ⟨rfl, ⟨n2, rfl⟩⟩) | (go_at_call 76; refine (hl _).mono ?_; rintro e w' ⟨rfl, ⟨n3, rfl⟩⟩))
  go_ret2
  exact ⟨rfl, by repeat (first | exact Drawn0.refl _ | apply Drawn0.step)⟩

theorem need_up (b N : Nat) (kd M X e d : Int) (hk : ∀ w, Calls Try.prog 41 #[.float .f64 b] w fun e w' => e = .returned (.int .i64 kd) ∧ Drawn0 w w') (hp : ∀ w, Calls Try.prog 75 #[.float .f64 b] w fun r w' => r = .returned (.tuple #[.int .u64 M, .int .i64 e]) ∧ Drawn0 w w') (k0 : (kd == 0) = false) (k1 : (kd == 1) = false) (kf : fLt b 0 = false) (c0 : decide ((N : Int) < 0) = false) (c1 : decide ((1000 : Int) < (N : Int)) = false) (hX : IntKind.u64.wrap (M * IntKind.u64.wrap (N : Int)) = X) (hd : wrap64 (-e) = d) (w : World) (L Y : Int) (hx : (X == 0) = false) (he : decide (e > 0) = true) (hl : ∀ w, Calls Try.prog 76 #[.int .u64 X] w fun r w' => r = .returned (.int .i64 L) ∧ Drawn0 w w') (hL : decide (wrap64 (L + e) > 62) = false)
    (hs : ∀ w, (Op.shift .shl .u64 X .i64 e).run Try.prog w = .ok (.int .u64 Y) w) :
    Calls Try.prog 47 #[.float .f64 b, .int .i64 (N : Int)] w fun e w' => e = .returned (.tuple #[.int .i64 (wrap64 Y), .int .i64 0]) ∧ Drawn0 w w' := by
  go_enter Try.func47, Try.ntmps47
  go_wp2_with (first | (go_at_call 41; refine (hk _).mono ?_; rintro e w' ⟨rfl, ⟨n1, rfl⟩⟩) | (go_at_call 75; refine (hp _).mono ?_; rintro e w' ⟨rfl, ⟨n2, rfl⟩⟩) | (go_at_call 76; refine (hl _).mono ?_; rintro e w' ⟨rfl, ⟨n3, rfl⟩⟩))
  go_ret2
  exact ⟨rfl, by repeat (first | exact Drawn0.refl _ | apply Drawn0.step)⟩

theorem need_great (b N : Nat) (kd M X e d : Int) (hk : ∀ w, Calls Try.prog 41 #[.float .f64 b] w fun e w' => e = .returned (.int .i64 kd) ∧ Drawn0 w w') (hp : ∀ w, Calls Try.prog 75 #[.float .f64 b] w fun r w' => r = .returned (.tuple #[.int .u64 M, .int .i64 e]) ∧ Drawn0 w w') (k0 : (kd == 0) = false) (k1 : (kd == 1) = false) (kf : fLt b 0 = false) (c0 : decide ((N : Int) < 0) = false) (c1 : decide ((1000 : Int) < (N : Int)) = false) (hX : IntKind.u64.wrap (M * IntKind.u64.wrap (N : Int)) = X) (hd : wrap64 (-e) = d) (w : World) (K : Int) (hx : (X == 0) = false) (he : decide (e > 0) = false) (hd2 : decide (d ≥ 64) = false)
    (hs : ∀ w, (Op.shift .shr .u64 X .i64 d).run Try.prog w = .ok (.int .u64 K) w) (hK : decide (K ≥ 4611686018427387904) = true) :
    Calls Try.prog 47 #[.float .f64 b, .int .i64 (N : Int)] w fun e w' => e = .returned (.tuple #[.int .i64 0, .int .i64 2]) ∧ Drawn0 w w' := by
  go_enter Try.func47, Try.ntmps47
  go_wp2_with (first | (go_at_call 41; refine (hk _).mono ?_; rintro e w' ⟨rfl, ⟨n1, rfl⟩⟩) | (go_at_call 75; refine (hp _).mono ?_; rintro e w' ⟨rfl, ⟨n2, rfl⟩⟩))
  go_ret2
  exact ⟨rfl, by repeat (first | exact Drawn0.refl _ | apply Drawn0.step)⟩

theorem need_even (b N : Nat) (kd M X e d : Int) (hk : ∀ w, Calls Try.prog 41 #[.float .f64 b] w fun e w' => e = .returned (.int .i64 kd) ∧ Drawn0 w w') (hp : ∀ w, Calls Try.prog 75 #[.float .f64 b] w fun r w' => r = .returned (.tuple #[.int .u64 M, .int .i64 e]) ∧ Drawn0 w w') (k0 : (kd == 0) = false) (k1 : (kd == 1) = false) (kf : fLt b 0 = false) (c0 : decide ((N : Int) < 0) = false) (c1 : decide ((1000 : Int) < (N : Int)) = false) (hX : IntKind.u64.wrap (M * IntKind.u64.wrap (N : Int)) = X) (hd : wrap64 (-e) = d) (w : World) (K Y : Int) (hx : (X == 0) = false) (he : decide (e > 0) = false) (hd2 : decide (d ≥ 64) = false)
    (hs : ∀ w, (Op.shift .shr .u64 X .i64 d).run Try.prog w = .ok (.int .u64 K) w) (hK : decide (K ≥ 4611686018427387904) = false)
    (hs2 : ∀ w, (Op.shift .shl .u64 K .i64 d).run Try.prog w = .ok (.int .u64 Y) w) (hY : (Y == X) = true) :
    Calls Try.prog 47 #[.float .f64 b, .int .i64 (N : Int)] w fun e w' => e = .returned (.tuple #[.int .i64 (wrap64 K), .int .i64 0]) ∧ Drawn0 w w' := by
  go_enter Try.func47, Try.ntmps47
  go_wp2_with (first | (go_at_call 41; refine (hk _).mono ?_; rintro e w' ⟨rfl, ⟨n1, rfl⟩⟩) | (go_at_call 75; refine (hp _).mono ?_; rintro e w' ⟨rfl, ⟨n2, rfl⟩⟩))
  go_ret2
  exact ⟨rfl, by repeat (first | exact Drawn0.refl _ | apply Drawn0.step)⟩

theorem need_odd (b N : Nat) (kd M X e d : Int) (hk : ∀ w, Calls Try.prog 41 #[.float .f64 b] w fun e w' => e = .returned (.int .i64 kd) ∧ Drawn0 w w') (hp : ∀ w, Calls Try.prog 75 #[.float .f64 b] w fun r w' => r = .returned (.tuple #[.int .u64 M, .int .i64 e]) ∧ Drawn0 w w') (k0 : (kd == 0) = false) (k1 : (kd == 1) = false) (kf : fLt b 0 = false) (c0 : decide ((N : Int) < 0) = false) (c1 : decide ((1000 : Int) < (N : Int)) = false) (hX : IntKind.u64.wrap (M * IntKind.u64.wrap (N : Int)) = X) (hd : wrap64 (-e) = d) (w : World) (K Y Z : Int) (hx : (X == 0) = false) (he : decide (e > 0) = false) (hd2 : decide (d ≥ 64) = false)
    (hs : ∀ w, (Op.shift .shr .u64 X .i64 d).run Try.prog w = .ok (.int .u64 K) w) (hK : decide (K ≥ 4611686018427387904) = false)
    (hs2 : ∀ w, (Op.shift .shl .u64 K .i64 d).run Try.prog w = .ok (.int .u64 Y) w) (hY : (Y == X) = false) (hZ : IntKind.u64.wrap (K + 1) = Z) :
    Calls Try.prog 47 #[.float .f64 b, .int .i64 (N : Int)] w fun e w' => e = .returned (.tuple #[.int .i64 (wrap64 Z), .int .i64 0]) ∧ Drawn0 w w' := by
  go_enter Try.func47, Try.ntmps47
  go_wp2_with (first | (go_at_call 41; refine (hk _).mono ?_; rintro e w' ⟨rfl, ⟨n1, rfl⟩⟩) | (go_at_call 75; refine (hp _).mono ?_; rintro e w' ⟨rfl, ⟨n2, rfl⟩⟩))
  go_ret2
  exact ⟨rfl, by repeat (first | exact Drawn0.refl _ | apply Drawn0.step)⟩
theorem wholeN_eq (g N : Nat) : wholeN g N = ((mag g * N) <<< (place g - unitE)) / 2 ^ (unitE - place g) := by
  unfold wholeN
  rw [shift_div, val_eq]
  congr 1
  rw [Nat.mul_assoc, Nat.mul_comm (2 ^ place g) N, ← Nat.mul_assoc]

theorem leftN_iff (g N : Nat) : leftN g N = decide (((mag g * N) <<< (place g - unitE)) % 2 ^ (unitE - place g) ≠ 0) := by
  unfold leftN
  rw [decide_eq_decide, val_eq]
  have e : mag g * 2 ^ place g * N = mag g * N * 2 ^ place g := by rw [Nat.mul_assoc, Nat.mul_comm (2 ^ place g) N, ← Nat.mul_assoc]
  rw [e]
  exact not_congr (shift_mod _ _ _).symm

theorem bitLen_bounds {x : Nat} (h : x ≠ 0) : 2 ^ (bitLen x - 1) ≤ x ∧ x < 2 ^ bitLen x ∧ 1 ≤ bitLen x := by
  unfold bitLen
  rw [if_neg h]
  exact ⟨Nat.log2_self_le h, Nat.lt_log2_self, by omega⟩

theorem u64_wrap {x : Nat} (h : x < 18446744073709551616) : IntKind.u64.wrap (x : Int) = (x : Int) := by
  rw [IntKind.wrap_u64]
  omega

theorem need_good (b N : Nat) (hb : b < 18446744073709551616) (hg : rung b < 9218868437227405312) (hm : minus b = false ∨ rung b = 0) (hN : N ≤ 1000) (w : World) :
    Calls Try.prog 47 #[.float .f64 b, .int .i64 (N : Int)] w fun e w' => e = .returned (.tuple #[.int .i64 (gneed b N).1, .int .i64 (gneed b N).2]) ∧ Drawn0 w w' := by
  have hn : isNaN b = false := by unfold isNaN; exact decide_eq_false (by omega)
  have hk := kind_calls b hb
  have hp := parts_calls b hb
  have k01 : (kind b == 0) = false ∧ (kind b == 1) = false := by
    have h : kind b ≠ 0 ∧ kind b ≠ 1 := by
      unfold kind
      rw [if_neg (by rw [hn]; simp), if_neg (by omega)]
      by_cases c : rung b = 0
      · rw [if_pos c]; omega
      · rw [if_neg c]; split <;> omega
    rw [beq_eq_false_iff_ne, beq_eq_false_iff_ne]
    exact h
  have kf : fLt b 0 = false := by
    rw [fLt_key hb (by omega) hn (by rfl), show key 0 = 0 by rfl, key_abs]
    refine decide_eq_false ?_
    rcases hm with hm | hm
    · rw [hm]; simp
    · rw [hm]; split <;> simp
  have c0 : decide ((N : Int) < 0) = false := decide_eq_false (by omega)
  have c1 : decide ((1000 : Int) < (N : Int)) = false := decide_eq_false (by omega)
  have hM := mag_lt (rung b)
  have hr : gneed b N = if 4611686018427387904 ≤ wholeN (rung b) N then ((0, 2) : Int × Int) else (((wholeN (rung b) N + (leftN (rung b) N).toNat : Nat) : Int), 0) := by
    unfold gneed
    rw [if_neg, Int.toNat_natCast]
    rintro (h | h | h | h)
    · omega
    · rcases hm with hm | hm
      · rw [hm] at h; simp at h
      · exact h.2 hm
    · omega
    · omega
  rw [hr, wholeN_eq, leftN_iff]
  clear hr hm hn
  have hP : place (rung b) ≤ 2046 := by unfold place; split <;> omega
  generalize mag (rung b) = M at *
  generalize place (rung b) = P at *
  have hX1 : M * N < 9223372036854775808 := by
    have h1 := Nat.mul_le_mul (Nat.le_of_lt_succ (show M < 9007199254740991 + 1 by omega)) hN
    omega
  have hX : IntKind.u64.wrap ((M : Int) * IntKind.u64.wrap (N : Int)) = ((M * N : Nat) : Int) := by
    rw [u64_wrap (show N < 18446744073709551616 by omega), ← Int.natCast_mul, u64_wrap (by omega)]
  generalize hXe : M * N = X at *
  have hd : wrap64 (-(-1074 + (P : Int))) = 1074 - (P : Int) := by unfold wrap64; omega
  by_cases x0 : X = 0
  · subst x0
    have e1 : (0 <<< (P - unitE)) = 0 := by rw [Nat.shiftLeft_eq, Nat.zero_mul]
    rw [e1, Nat.zero_div, Nat.zero_mod, if_neg (by omega)]
    exact need_zero b N _ _ _ _ hk hp k01.1 k01.2 kf c0 c1 hX w rfl
  · have hx : (((X : Nat) : Int) == 0) = false := by rw [beq_eq_false_iff_ne]; omega
    by_cases hPe : 1074 < P
    · have he : decide ((-1074 + (P : Int)) > 0) = true := decide_eq_true (by omega)
      have e1 : unitE - P = 0 := by unfold unitE; omega
      have e2 : P - unitE = P - 1074 := rfl
      obtain ⟨b1, b2, b3⟩ := bitLen_bounds x0
      have b4 : bitLen X ≤ 63 := by
        rcases Nat.lt_or_ge 63 (bitLen X) with k | k
        · have : 2 ^ 63 ≤ 2 ^ (bitLen X - 1) := Nat.pow_le_pow_right (by omega) (by omega)
          have e : (2 : Nat) ^ 63 = 9223372036854775808 := rfl
          omega
        · exact k
      have hlen := len64_calls X (by omega)
      have hw : wrap64 (((bitLen X : Nat) : Int) + (-1074 + (P : Int))) = (bitLen X : Int) + (-1074 + (P : Int)) := by clear hX hd; unfold wrap64; omega
      rw [e1, e2, Nat.pow_zero, Nat.div_one, Nat.mod_one, Nat.shiftLeft_eq]
      by_cases big : 62 < bitLen X + (P - 1074)
      · have hge : 4611686018427387904 ≤ X * 2 ^ (P - 1074) := by
          have h1 := Nat.mul_le_mul_right (2 ^ (P - 1074)) b1
          rw [← Nat.pow_add] at h1
          have h2 : 2 ^ 62 ≤ 2 ^ (bitLen X - 1 + (P - 1074)) := Nat.pow_le_pow_right (by omega) (by omega)
          have e : (2 : Nat) ^ 62 = 4611686018427387904 := rfl
          omega
        rw [if_pos hge]
        exact need_big b N _ _ _ _ _ hk hp k01.1 k01.2 kf c0 c1 hX hd w _ hx he hlen (decide_eq_true (by rw [hw]; omega))
      · have hlt : X * 2 ^ (P - 1074) < 4611686018427387904 := by
          have h1 := Nat.mul_lt_mul_of_pos_right b2 (Nat.two_pow_pos (P - 1074))
          rw [← Nat.pow_add] at h1
          have h2 : 2 ^ (bitLen X + (P - 1074)) ≤ 2 ^ 62 := Nat.pow_le_pow_right (by omega) (by omega)
          have e : (2 : Nat) ^ 62 = 4611686018427387904 := rfl
          omega
        rw [if_neg (by omega)]
        have hs : ∀ w, (Op.shift .shl .u64 ((X : Nat) : Int) .i64 (-1074 + (P : Int))).run Try.prog w = .ok (.int .u64 ((X * 2 ^ (P - 1074) : Nat) : Int)) w := by
          intro w
          rw [shift_shl_u64 (x := (X : Int)) (y := -1074 + (P : Int)) (yk := .i64) (by omega) (by omega), show (-1074 + (P : Int)).toNat = P - 1074 by omega]
          have e : ((X : Nat) : Int) * 2 ^ (P - 1074) = ((X * 2 ^ (P - 1074) : Nat) : Int) := by push_cast; rfl
          rw [e, u64_wrap (by omega)]
          rfl
        have hL : decide (wrap64 (((bitLen X : Nat) : Int) + (-1074 + (P : Int))) > 62) = false := decide_eq_false (by rw [hw]; omega)
        clear hw b1 b2 b3 b4 big hM hXe hX1
        generalize X * 2 ^ (P - 1074) = Y at *
        have hY : wrap64 ((Y : Nat) : Int) = (Y : Int) := by clear hX hd hL; unfold wrap64; omega
        have := need_up b N _ _ _ _ _ hk hp k01.1 k01.2 kf c0 c1 hX hd w _ _ hx he hlen hL hs
        rw [hY] at this
        exact this
    · have he : decide ((-1074 + (P : Int)) > 0) = false := decide_eq_false (by omega)
      have e1 : P - unitE = 0 := by unfold unitE; omega
      have e2 : unitE - P = 1074 - P := rfl
      rw [e1, e2, Nat.shiftLeft_zero]
      by_cases far : 64 ≤ 1074 - P
      · have hbig : X < 2 ^ (1074 - P) := by
          have : 2 ^ 64 ≤ 2 ^ (1074 - P) := Nat.pow_le_pow_right (by omega) far
          have e : (2 : Nat) ^ 64 = 18446744073709551616 := rfl
          omega
        rw [Nat.div_eq_of_lt hbig, Nat.mod_eq_of_lt hbig, if_neg (by omega), decide_eq_true x0]
        exact need_far b N _ _ _ _ _ hk hp k01.1 k01.2 kf c0 c1 hX hd w hx he (decide_eq_true (by omega))
      · have hd2 : decide ((1074 - (P : Int)) ≥ 64) = false := decide_eq_false (by omega)
        have hs : ∀ w, (Op.shift .shr .u64 ((X : Nat) : Int) .i64 (1074 - (P : Int))).run Try.prog w = .ok (.int .u64 ((X / 2 ^ (1074 - P) : Nat) : Int)) w := by
          intro w
          rw [shift_shr_u64 (x := (X : Int)) (y := 1074 - (P : Int)) (yk := .i64) (by omega) (by omega), show (1074 - (P : Int)).toNat = 1074 - P by omega]
          have e : ((X : Nat) : Int) / 2 ^ (1074 - P) = ((X / 2 ^ (1074 - P) : Nat) : Int) := by push_cast; rfl
          rw [e]
          rfl
        have hKX : X / 2 ^ (1074 - P) ≤ X := Nat.div_le_self _ _
        by_cases big : 4611686018427387904 ≤ X / 2 ^ (1074 - P)
        · rw [if_pos big]
          exact need_great b N _ _ _ _ _ hk hp k01.1 k01.2 kf c0 c1 hX hd w _ hx he hd2 hs (decide_eq_true (by omega))
        · rw [if_neg big]
          have hK : decide (((X / 2 ^ (1074 - P) : Nat) : Int) ≥ 4611686018427387904) = false := decide_eq_false (by omega)
          have hmul : X / 2 ^ (1074 - P) * 2 ^ (1074 - P) ≤ X := Nat.div_mul_le_self _ _
          have hsum : X / 2 ^ (1074 - P) * 2 ^ (1074 - P) + X % 2 ^ (1074 - P) = X := by rw [Nat.mul_comm]; exact Nat.div_add_mod _ _
          have hs2 : ∀ w, (Op.shift .shl .u64 ((X / 2 ^ (1074 - P) : Nat) : Int) .i64 (1074 - (P : Int))).run Try.prog w = .ok (.int .u64 ((X / 2 ^ (1074 - P) * 2 ^ (1074 - P) : Nat) : Int)) w := by
            intro w
            rw [shift_shl_u64 (x := ((X / 2 ^ (1074 - P) : Nat) : Int)) (y := 1074 - (P : Int)) (yk := .i64) (by omega) (by omega), show (1074 - (P : Int)).toNat = 1074 - P by omega]
            have e : ((X / 2 ^ (1074 - P) : Nat) : Int) * 2 ^ (1074 - P) = ((X / 2 ^ (1074 - P) * 2 ^ (1074 - P) : Nat) : Int) := by push_cast; rfl
            rw [e, u64_wrap (by omega)]
            rfl
          generalize X / 2 ^ (1074 - P) = K at *
          generalize hY : K * 2 ^ (1074 - P) = Y at *
          by_cases odd : X % 2 ^ (1074 - P) = 0
          · rw [decide_eq_false (by omega)]
            have := need_even b N _ _ _ _ _ hk hp k01.1 k01.2 kf c0 c1 hX hd w _ _ hx he hd2 hs hK hs2 (by rw [beq_iff_eq]; omega)
            rw [show wrap64 ((K : Nat) : Int) = (K : Int) by clear hX hd this; unfold wrap64; omega] at this
            exact this
          · rw [decide_eq_true odd]
            have := need_odd b N _ _ _ _ _ hk hp k01.1 k01.2 kf c0 c1 hX hd w _ _ ((K + 1 : Nat) : Int) hx he hd2 hs hK hs2 (by rw [beq_eq_false_iff_ne]; omega)
              (by have := u64_wrap (show K + 1 < 18446744073709551616 by omega); exact this)
            rw [show wrap64 ((K + 1 : Nat) : Int) = ((K + 1 : Nat) : Int) by clear hX hd this; unfold wrap64; omega] at this
            exact this

theorem need_calls (b : Nat) (n : Int) (hb : b < 18446744073709551616) (w : World) :
    Calls Try.prog 47 #[.float .f64 b, .int .i64 n] w fun e w' => e = .returned (.tuple #[.int .i64 (gneed b n).1, .int .i64 (gneed b n).2]) ∧ Drawn0 w w' := by
  by_cases hbad : 9218868437227405312 ≤ rung b ∨ (minus b = true ∧ rung b ≠ 0) ∨ n < 0 ∨ n > 1000
  · have e : gneed b n = (0, 1) := by unfold gneed; rw [if_pos hbad]
    rw [e]
    exact need_bad b n hb hbad w
  · have h1 : rung b < 9218868437227405312 := by
      rcases Nat.lt_or_ge (rung b) 9218868437227405312 with h | h
      · exact h
      · exact absurd (Or.inl h) hbad
    have h2 : minus b = false ∨ rung b = 0 := by
      cases hm : minus b
      · exact Or.inl rfl
      · right
        apply Decidable.byContradiction
        intro h
        exact hbad (Or.inr (Or.inl ⟨hm, h⟩))
    have h3 : 0 ≤ n ∧ n ≤ 1000 := by
      refine ⟨?_, ?_⟩ <;> apply Decidable.byContradiction <;> intro h
      · exact hbad (Or.inr (Or.inr (Or.inl (by omega))))
      · exact hbad (Or.inr (Or.inr (Or.inr (by omega))))
    obtain ⟨N, rfl⟩ := Int.eq_ofNat_of_zero_le h3.1
    exact need_good b N hb h1 h2 (by omega) w

end Go.Proofs.Ytfkbcldeohblpaa.U
