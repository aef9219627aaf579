/- bits.Len64: a contract (printed by wip/tools/len64.py: eight paths alike). -/
import Derived.Test.YtfkbcldeohblpaaUParts
namespace Go.Proofs.Ytfkbcldeohblpaa.U
open Go.RowKit Go.Proofs.YtfkbcldeohblpaaW.PrintWords Go.Proofs.YtfkbcldeohblpaaW.PrintLast Go.Proofs.YtfkbcldeohblpaaW.PrintMore
set_option linter.unusedVariables false
set_option linter.unusedSimpArgs false

/-- How many bits a number has. -/
def bitLen (x : Nat) : Nat := if x = 0 then 0 else x.log2 + 1

theorem log2_div (x k : Nat) (h : 2 ^ k ≤ x) : x.log2 = (x / 2 ^ k).log2 + k := by
  have h0 : x / 2 ^ k ≠ 0 := by
    have := Nat.div_pos h (Nat.two_pow_pos k)
    omega
  have hx : x ≠ 0 := by have := Nat.two_pow_pos k; omega
  rw [Nat.log2_eq_iff hx]
  have a1 := Nat.log2_self_le h0
  have a2 : x / 2 ^ k < 2 ^ ((x / 2 ^ k).log2 + 1) := Nat.lt_log2_self
  constructor
  · rw [Nat.pow_add]
    exact (Nat.le_div_iff_mul_le (Nat.two_pow_pos k)).mp a1
  · rw [Nat.add_right_comm, Nat.pow_add]
    exact (Nat.div_lt_iff_lt_mul (Nat.two_pow_pos k)).mp a2

theorem bitLen_div (x k : Nat) (h : 2 ^ k ≤ x) : bitLen x = k + bitLen (x / 2 ^ k) := by
  have h0 : x / 2 ^ k ≠ 0 := by
    have := Nat.div_pos h (Nat.two_pow_pos k)
    omega
  have hx : x ≠ 0 := by have := Nat.two_pow_pos k; omega
  unfold bitLen
  rw [if_neg h0, if_neg hx, log2_div x k h]
  omega

theorem bitLen_le {y : Nat} (h : y < 256) : bitLen y ≤ 8 := by
  unfold bitLen
  split
  · omega
  · rename_i h0
    have : y.log2 < 8 := (Nat.log2_lt h0).mpr h
    omega

set_option maxHeartbeats 8000000
set_option maxRecDepth 100000
theorem len64_calls (x : Nat) (hx : x < 18446744073709551616) (w : World) : Calls Try.prog 76 #[.int .u64 (x : Int)] w fun e w' => e = .returned (.int .i64 (bitLen x : Nat)) ∧ Drawn0 w w' := by
  by_cases c1 : x ≥ 4294967296
  · by_cases c2 : x / 4294967296 ≥ 65536
    · by_cases c3 : x / 281474976710656 ≥ 256
      · go_enter Try.func76, Try.ntmps76
        generalize hS : ByteArray.mk (List.toArray (List.append _ _)) = S
        have hsz : S.size = 256 := by rw [← hS]; decide +kernel
        have htab : ∀ y : Fin 256, bt S (y.val : Nat) = (bitLen y.val : Nat) := by rw [← hS]; decide +kernel
        clear hS
        have hi : 0 ≤ (((x : Int) / 4294967296) / 65536) / 256 % 256 ∧ (((x : Int) / 4294967296) / 65536) / 256 % 256 < (S.size : Int) := by rw [hsz]; omega
        have hl : ((((x : Int) / 4294967296) / 65536) / 256 % 256).toNat < S.size := by rw [hsz]; omega
        have hb := bt_at S ((((x : Int) / 4294967296) / 65536) / 256 % 256) hl
        have hy : x / 72057594037927936 < 256 := by omega
        have ht : bt S ((((x : Int) / 4294967296) / 65536) / 256 % 256) = (bitLen (x / 72057594037927936) : Nat) := by
          have := htab ⟨x / 72057594037927936, hy⟩
          rw [show (((x : Int) / 4294967296) / 65536) / 256 % 256 = ((x / 72057594037927936 : Nat) : Int) by omega]
          exact this
        rw [ht] at hb
        clear ht htab
        have hbl := bitLen_le hy
        have he : bitLen x = 56 + bitLen (x / 72057594037927936) := bitLen_div x 56 (by omega)
        have d0 : decide ((x : Int) ≥ 4294967296) = true := decide_eq_true (by omega)
        have d1 : decide ((x : Int) / 4294967296 ≥ 65536) = true := decide_eq_true (by omega)
        have d2 : decide (((x : Int) / 4294967296) / 65536 ≥ 256) = true := decide_eq_true (by omega)
        rw [he]
        clear he hy
        generalize bitLen (x / 72057594037927936) = L at *
        have w2 : wrap64 (56 + (L : Int)) = 56 + L := by unfold wrap64; omega
        have w1 : wrap64 (L : Int) = L := by clear w2; unfold wrap64; omega
        clear hbl
        clear c1 c2 c3 hsz hx
        go_wp2
        go_ret
        refine ⟨?_, by repeat (first | exact Drawn0.refl _ | apply Drawn0.step)⟩
        first | (show Ending.returned (Value.int IntKind.i64 (wrap64 (56 + (L : Int)))) = _; rw [w2]; rfl) | (show Ending.returned (Value.int IntKind.i64 (wrap64 (56 + wrap64 (L : Int)))) = _; rw [w1, w2]; rfl) | (show Ending.returned (Value.int IntKind.i64 (wrap64 (wrap64 (L : Int)))) = _; rw [w1, w1, Nat.zero_add]) | (show Ending.returned (Value.int IntKind.i64 (wrap64 (L : Int))) = _; rw [w1, Nat.zero_add])
      · go_enter Try.func76, Try.ntmps76
        generalize hS : ByteArray.mk (List.toArray (List.append _ _)) = S
        have hsz : S.size = 256 := by rw [← hS]; decide +kernel
        have htab : ∀ y : Fin 256, bt S (y.val : Nat) = (bitLen y.val : Nat) := by rw [← hS]; decide +kernel
        clear hS
        have hi : 0 ≤ ((x : Int) / 4294967296) / 65536 % 256 ∧ ((x : Int) / 4294967296) / 65536 % 256 < (S.size : Int) := by rw [hsz]; omega
        have hl : (((x : Int) / 4294967296) / 65536 % 256).toNat < S.size := by rw [hsz]; omega
        have hb := bt_at S (((x : Int) / 4294967296) / 65536 % 256) hl
        have hy : x / 281474976710656 < 256 := by omega
        have ht : bt S (((x : Int) / 4294967296) / 65536 % 256) = (bitLen (x / 281474976710656) : Nat) := by
          have := htab ⟨x / 281474976710656, hy⟩
          rw [show ((x : Int) / 4294967296) / 65536 % 256 = ((x / 281474976710656 : Nat) : Int) by omega]
          exact this
        rw [ht] at hb
        clear ht htab
        have hbl := bitLen_le hy
        have he : bitLen x = 48 + bitLen (x / 281474976710656) := bitLen_div x 48 (by omega)
        have d0 : decide ((x : Int) ≥ 4294967296) = true := decide_eq_true (by omega)
        have d1 : decide ((x : Int) / 4294967296 ≥ 65536) = true := decide_eq_true (by omega)
        have d2 : decide (((x : Int) / 4294967296) / 65536 ≥ 256) = false := decide_eq_false (by omega)
        rw [he]
        clear he hy
        generalize bitLen (x / 281474976710656) = L at *
        have w2 : wrap64 (48 + (L : Int)) = 48 + L := by unfold wrap64; omega
        have w1 : wrap64 (L : Int) = L := by clear w2; unfold wrap64; omega
        clear hbl
        clear c1 c2 c3 hsz hx
        go_wp2
        go_ret
        refine ⟨?_, by repeat (first | exact Drawn0.refl _ | apply Drawn0.step)⟩
        first | (show Ending.returned (Value.int IntKind.i64 (wrap64 (48 + (L : Int)))) = _; rw [w2]; rfl) | (show Ending.returned (Value.int IntKind.i64 (wrap64 (48 + wrap64 (L : Int)))) = _; rw [w1, w2]; rfl) | (show Ending.returned (Value.int IntKind.i64 (wrap64 (wrap64 (L : Int)))) = _; rw [w1, w1, Nat.zero_add]) | (show Ending.returned (Value.int IntKind.i64 (wrap64 (L : Int))) = _; rw [w1, Nat.zero_add])
    · by_cases c3 : x / 4294967296 ≥ 256
      · go_enter Try.func76, Try.ntmps76
        generalize hS : ByteArray.mk (List.toArray (List.append _ _)) = S
        have hsz : S.size = 256 := by rw [← hS]; decide +kernel
        have htab : ∀ y : Fin 256, bt S (y.val : Nat) = (bitLen y.val : Nat) := by rw [← hS]; decide +kernel
        clear hS
        have hi : 0 ≤ ((x : Int) / 4294967296) / 256 % 256 ∧ ((x : Int) / 4294967296) / 256 % 256 < (S.size : Int) := by rw [hsz]; omega
        have hl : (((x : Int) / 4294967296) / 256 % 256).toNat < S.size := by rw [hsz]; omega
        have hb := bt_at S (((x : Int) / 4294967296) / 256 % 256) hl
        have hy : x / 1099511627776 < 256 := by omega
        have ht : bt S (((x : Int) / 4294967296) / 256 % 256) = (bitLen (x / 1099511627776) : Nat) := by
          have := htab ⟨x / 1099511627776, hy⟩
          rw [show ((x : Int) / 4294967296) / 256 % 256 = ((x / 1099511627776 : Nat) : Int) by omega]
          exact this
        rw [ht] at hb
        clear ht htab
        have hbl := bitLen_le hy
        have he : bitLen x = 40 + bitLen (x / 1099511627776) := bitLen_div x 40 (by omega)
        have d0 : decide ((x : Int) ≥ 4294967296) = true := decide_eq_true (by omega)
        have d1 : decide ((x : Int) / 4294967296 ≥ 65536) = false := decide_eq_false (by omega)
        have d2 : decide ((x : Int) / 4294967296 ≥ 256) = true := decide_eq_true (by omega)
        rw [he]
        clear he hy
        generalize bitLen (x / 1099511627776) = L at *
        have w2 : wrap64 (40 + (L : Int)) = 40 + L := by unfold wrap64; omega
        have w1 : wrap64 (L : Int) = L := by clear w2; unfold wrap64; omega
        clear hbl
        clear c1 c2 c3 hsz hx
        go_wp2
        go_ret
        refine ⟨?_, by repeat (first | exact Drawn0.refl _ | apply Drawn0.step)⟩
        first | (show Ending.returned (Value.int IntKind.i64 (wrap64 (40 + (L : Int)))) = _; rw [w2]; rfl) | (show Ending.returned (Value.int IntKind.i64 (wrap64 (40 + wrap64 (L : Int)))) = _; rw [w1, w2]; rfl) | (show Ending.returned (Value.int IntKind.i64 (wrap64 (wrap64 (L : Int)))) = _; rw [w1, w1, Nat.zero_add]) | (show Ending.returned (Value.int IntKind.i64 (wrap64 (L : Int))) = _; rw [w1, Nat.zero_add])
      · go_enter Try.func76, Try.ntmps76
        generalize hS : ByteArray.mk (List.toArray (List.append _ _)) = S
        have hsz : S.size = 256 := by rw [← hS]; decide +kernel
        have htab : ∀ y : Fin 256, bt S (y.val : Nat) = (bitLen y.val : Nat) := by rw [← hS]; decide +kernel
        clear hS
        have hi : 0 ≤ (x : Int) / 4294967296 % 256 ∧ (x : Int) / 4294967296 % 256 < (S.size : Int) := by rw [hsz]; omega
        have hl : ((x : Int) / 4294967296 % 256).toNat < S.size := by rw [hsz]; omega
        have hb := bt_at S ((x : Int) / 4294967296 % 256) hl
        have hy : x / 4294967296 < 256 := by omega
        have ht : bt S ((x : Int) / 4294967296 % 256) = (bitLen (x / 4294967296) : Nat) := by
          have := htab ⟨x / 4294967296, hy⟩
          rw [show (x : Int) / 4294967296 % 256 = ((x / 4294967296 : Nat) : Int) by omega]
          exact this
        rw [ht] at hb
        clear ht htab
        have hbl := bitLen_le hy
        have he : bitLen x = 32 + bitLen (x / 4294967296) := bitLen_div x 32 (by omega)
        have d0 : decide ((x : Int) ≥ 4294967296) = true := decide_eq_true (by omega)
        have d1 : decide ((x : Int) / 4294967296 ≥ 65536) = false := decide_eq_false (by omega)
        have d2 : decide ((x : Int) / 4294967296 ≥ 256) = false := decide_eq_false (by omega)
        rw [he]
        clear he hy
        generalize bitLen (x / 4294967296) = L at *
        have w2 : wrap64 (32 + (L : Int)) = 32 + L := by unfold wrap64; omega
        have w1 : wrap64 (L : Int) = L := by clear w2; unfold wrap64; omega
        clear hbl
        clear c1 c2 c3 hsz hx
        go_wp2
        go_ret
        refine ⟨?_, by repeat (first | exact Drawn0.refl _ | apply Drawn0.step)⟩
        first | (show Ending.returned (Value.int IntKind.i64 (wrap64 (32 + (L : Int)))) = _; rw [w2]; rfl) | (show Ending.returned (Value.int IntKind.i64 (wrap64 (32 + wrap64 (L : Int)))) = _; rw [w1, w2]; rfl) | (show Ending.returned (Value.int IntKind.i64 (wrap64 (wrap64 (L : Int)))) = _; rw [w1, w1, Nat.zero_add]) | (show Ending.returned (Value.int IntKind.i64 (wrap64 (L : Int))) = _; rw [w1, Nat.zero_add])
  · by_cases c2 : x ≥ 65536
    · by_cases c3 : x / 65536 ≥ 256
      · go_enter Try.func76, Try.ntmps76
        generalize hS : ByteArray.mk (List.toArray (List.append _ _)) = S
        have hsz : S.size = 256 := by rw [← hS]; decide +kernel
        have htab : ∀ y : Fin 256, bt S (y.val : Nat) = (bitLen y.val : Nat) := by rw [← hS]; decide +kernel
        clear hS
        have hi : 0 ≤ ((x : Int) / 65536) / 256 % 256 ∧ ((x : Int) / 65536) / 256 % 256 < (S.size : Int) := by rw [hsz]; omega
        have hl : (((x : Int) / 65536) / 256 % 256).toNat < S.size := by rw [hsz]; omega
        have hb := bt_at S (((x : Int) / 65536) / 256 % 256) hl
        have hy : x / 16777216 < 256 := by omega
        have ht : bt S (((x : Int) / 65536) / 256 % 256) = (bitLen (x / 16777216) : Nat) := by
          have := htab ⟨x / 16777216, hy⟩
          rw [show ((x : Int) / 65536) / 256 % 256 = ((x / 16777216 : Nat) : Int) by omega]
          exact this
        rw [ht] at hb
        clear ht htab
        have hbl := bitLen_le hy
        have he : bitLen x = 24 + bitLen (x / 16777216) := bitLen_div x 24 (by omega)
        have d0 : decide ((x : Int) ≥ 4294967296) = false := decide_eq_false (by omega)
        have d1 : decide ((x : Int) ≥ 65536) = true := decide_eq_true (by omega)
        have d2 : decide ((x : Int) / 65536 ≥ 256) = true := decide_eq_true (by omega)
        rw [he]
        clear he hy
        generalize bitLen (x / 16777216) = L at *
        have w2 : wrap64 (24 + (L : Int)) = 24 + L := by unfold wrap64; omega
        have w1 : wrap64 (L : Int) = L := by clear w2; unfold wrap64; omega
        clear hbl
        clear c1 c2 c3 hsz hx
        go_wp2
        go_ret
        refine ⟨?_, by repeat (first | exact Drawn0.refl _ | apply Drawn0.step)⟩
        first | (show Ending.returned (Value.int IntKind.i64 (wrap64 (24 + (L : Int)))) = _; rw [w2]; rfl) | (show Ending.returned (Value.int IntKind.i64 (wrap64 (24 + wrap64 (L : Int)))) = _; rw [w1, w2]; rfl) | (show Ending.returned (Value.int IntKind.i64 (wrap64 (wrap64 (L : Int)))) = _; rw [w1, w1, Nat.zero_add]) | (show Ending.returned (Value.int IntKind.i64 (wrap64 (L : Int))) = _; rw [w1, Nat.zero_add])
      · go_enter Try.func76, Try.ntmps76
        generalize hS : ByteArray.mk (List.toArray (List.append _ _)) = S
        have hsz : S.size = 256 := by rw [← hS]; decide +kernel
        have htab : ∀ y : Fin 256, bt S (y.val : Nat) = (bitLen y.val : Nat) := by rw [← hS]; decide +kernel
        clear hS
        have hi : 0 ≤ (x : Int) / 65536 % 256 ∧ (x : Int) / 65536 % 256 < (S.size : Int) := by rw [hsz]; omega
        have hl : ((x : Int) / 65536 % 256).toNat < S.size := by rw [hsz]; omega
        have hb := bt_at S ((x : Int) / 65536 % 256) hl
        have hy : x / 65536 < 256 := by omega
        have ht : bt S ((x : Int) / 65536 % 256) = (bitLen (x / 65536) : Nat) := by
          have := htab ⟨x / 65536, hy⟩
          rw [show (x : Int) / 65536 % 256 = ((x / 65536 : Nat) : Int) by omega]
          exact this
        rw [ht] at hb
        clear ht htab
        have hbl := bitLen_le hy
        have he : bitLen x = 16 + bitLen (x / 65536) := bitLen_div x 16 (by omega)
        have d0 : decide ((x : Int) ≥ 4294967296) = false := decide_eq_false (by omega)
        have d1 : decide ((x : Int) ≥ 65536) = true := decide_eq_true (by omega)
        have d2 : decide ((x : Int) / 65536 ≥ 256) = false := decide_eq_false (by omega)
        rw [he]
        clear he hy
        generalize bitLen (x / 65536) = L at *
        have w2 : wrap64 (16 + (L : Int)) = 16 + L := by unfold wrap64; omega
        have w1 : wrap64 (L : Int) = L := by clear w2; unfold wrap64; omega
        clear hbl
        clear c1 c2 c3 hsz hx
        go_wp2
        go_ret
        refine ⟨?_, by repeat (first | exact Drawn0.refl _ | apply Drawn0.step)⟩
        first | (show Ending.returned (Value.int IntKind.i64 (wrap64 (16 + (L : Int)))) = _; rw [w2]; rfl) | (show Ending.returned (Value.int IntKind.i64 (wrap64 (16 + wrap64 (L : Int)))) = _; rw [w1, w2]; rfl) | (show Ending.returned (Value.int IntKind.i64 (wrap64 (wrap64 (L : Int)))) = _; rw [w1, w1, Nat.zero_add]) | (show Ending.returned (Value.int IntKind.i64 (wrap64 (L : Int))) = _; rw [w1, Nat.zero_add])
    · by_cases c3 : x ≥ 256
      · go_enter Try.func76, Try.ntmps76
        generalize hS : ByteArray.mk (List.toArray (List.append _ _)) = S
        have hsz : S.size = 256 := by rw [← hS]; decide +kernel
        have htab : ∀ y : Fin 256, bt S (y.val : Nat) = (bitLen y.val : Nat) := by rw [← hS]; decide +kernel
        clear hS
        have hi : 0 ≤ (x : Int) / 256 % 256 ∧ (x : Int) / 256 % 256 < (S.size : Int) := by rw [hsz]; omega
        have hl : ((x : Int) / 256 % 256).toNat < S.size := by rw [hsz]; omega
        have hb := bt_at S ((x : Int) / 256 % 256) hl
        have hy : x / 256 < 256 := by omega
        have ht : bt S ((x : Int) / 256 % 256) = (bitLen (x / 256) : Nat) := by
          have := htab ⟨x / 256, hy⟩
          rw [show (x : Int) / 256 % 256 = ((x / 256 : Nat) : Int) by omega]
          exact this
        rw [ht] at hb
        clear ht htab
        have hbl := bitLen_le hy
        have he : bitLen x = 8 + bitLen (x / 256) := bitLen_div x 8 (by omega)
        have d0 : decide ((x : Int) ≥ 4294967296) = false := decide_eq_false (by omega)
        have d1 : decide ((x : Int) ≥ 65536) = false := decide_eq_false (by omega)
        have d2 : decide ((x : Int) ≥ 256) = true := decide_eq_true (by omega)
        rw [he]
        clear he hy
        generalize bitLen (x / 256) = L at *
        have w2 : wrap64 (8 + (L : Int)) = 8 + L := by unfold wrap64; omega
        have w1 : wrap64 (L : Int) = L := by clear w2; unfold wrap64; omega
        clear hbl
        clear c1 c2 c3 hsz hx
        go_wp2
        go_ret
        refine ⟨?_, by repeat (first | exact Drawn0.refl _ | apply Drawn0.step)⟩
        first | (show Ending.returned (Value.int IntKind.i64 (wrap64 (8 + (L : Int)))) = _; rw [w2]; rfl) | (show Ending.returned (Value.int IntKind.i64 (wrap64 (8 + wrap64 (L : Int)))) = _; rw [w1, w2]; rfl) | (show Ending.returned (Value.int IntKind.i64 (wrap64 (wrap64 (L : Int)))) = _; rw [w1, w1, Nat.zero_add]) | (show Ending.returned (Value.int IntKind.i64 (wrap64 (L : Int))) = _; rw [w1, Nat.zero_add])
      · go_enter Try.func76, Try.ntmps76
        generalize hS : ByteArray.mk (List.toArray (List.append _ _)) = S
        have hsz : S.size = 256 := by rw [← hS]; decide +kernel
        have htab : ∀ y : Fin 256, bt S (y.val : Nat) = (bitLen y.val : Nat) := by rw [← hS]; decide +kernel
        clear hS
        have hi : 0 ≤ (x : Int) % 256 ∧ (x : Int) % 256 < (S.size : Int) := by rw [hsz]; omega
        have hl : ((x : Int) % 256).toNat < S.size := by rw [hsz]; omega
        have hb := bt_at S ((x : Int) % 256) hl
        have hy : x < 256 := by omega
        have ht : bt S ((x : Int) % 256) = (bitLen (x) : Nat) := by
          have := htab ⟨x, hy⟩
          rw [show (x : Int) % 256 = ((x : Nat) : Int) by omega]
          exact this
        rw [ht] at hb
        clear ht htab
        have hbl := bitLen_le hy
        have he : bitLen x = 0 + bitLen (x) := by omega
        have d0 : decide ((x : Int) ≥ 4294967296) = false := decide_eq_false (by omega)
        have d1 : decide ((x : Int) ≥ 65536) = false := decide_eq_false (by omega)
        have d2 : decide ((x : Int) ≥ 256) = false := decide_eq_false (by omega)
        rw [he]
        clear he hy
        generalize bitLen (x) = L at *
        have w2 : wrap64 (0 + (L : Int)) = 0 + L := by unfold wrap64; omega
        have w1 : wrap64 (L : Int) = L := by clear w2; unfold wrap64; omega
        clear hbl
        clear c1 c2 c3 hsz hx
        go_wp2
        go_ret
        refine ⟨?_, by repeat (first | exact Drawn0.refl _ | apply Drawn0.step)⟩
        first | (show Ending.returned (Value.int IntKind.i64 (wrap64 (0 + (L : Int)))) = _; rw [w2]; rfl) | (show Ending.returned (Value.int IntKind.i64 (wrap64 (0 + wrap64 (L : Int)))) = _; rw [w1, w2]; rfl) | (show Ending.returned (Value.int IntKind.i64 (wrap64 (wrap64 (L : Int)))) = _; rw [w1, w1, Nat.zero_add]) | (show Ending.returned (Value.int IntKind.i64 (wrap64 (L : Int))) = _; rw [w1, Nat.zero_add])

end Go.Proofs.Ytfkbcldeohblpaa.U
