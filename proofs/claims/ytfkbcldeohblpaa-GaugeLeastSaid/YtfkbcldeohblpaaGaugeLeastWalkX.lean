/- GaugeLeast: the law's function answers true for any numbers. -/
import Derived.Test.YtfkbcldeohblpaaULeastCall
import Derived.Deep.RegionHeld3
namespace Go.Proofs.Ytfkbcldeohblpaa.U
open Go.RowKit Go.Proofs.YtfkbcldeohblpaaW.PrintWords Go.Proofs.YtfkbcldeohblpaaW.PrintLast Go.Proofs.YtfkbcldeohblpaaW.PrintMore
set_option linter.unusedVariables false
set_option linter.unusedSimpArgs false

theorem info65 : (Try.prog.info? 65).map (fun i => (i.zero, i.size, i.bytes)) = some (some (.float .f64 0), 1, 8) := by kernel_rfl

set_option maxHeartbeats 8000000
set_option maxRecDepth 100000
theorem least_many (A : Option Addr) (c : Nat) (l : List Int) (d0 : decide ((l.length : Int) > 100) = true) (w : World) :
    Calls Try.prog 13 #[.slice A l.length c] w fun e w' => e = .returned (.bool true) ∧ Below w.heap.size w w' := by
  have hB := Below.refl w.heap.size w
  go_enter Try.func13, Try.ntmps13
  go_wp2_with (first | (go_at_call 38; refine (alive_calls _).mono ?_; rintro e w1 ⟨rfl, hb1⟩))
  go_ret
  exact ⟨rfl, by first | exact hb1 | exact below_dn hb1 _⟩

/-- The list of the first so many and one more. -/
theorem take_more (l : List Int) (i : Nat) (h : i < l.length) : l.take i ++ [rd l (i : Int)] = l.take (i + 1) := by
  have e : rd l (i : Int) = l[i] := by
    unfold rd
    rw [Int.toNat_natCast, List.getD_eq_getElem?_getD, List.getElem?_eq_getElem h]
    rfl
  rw [e, List.take_append_getElem h]

theorem least_few (A : Option Addr) (c : Nat) (l : List Int) (w : World) (d0 : decide ((l.length : Int) > 100) = false) (hl : l.length ≤ 100) (hr : Kd.C (Kd.int .u64) w A l.length l) (hc : l.length ≤ c) (hb : Bits64 l) :
    Calls Try.prog 13 #[.slice A l.length c] w fun e w' => e = .returned (.bool true) ∧ Below w.heap.size w w' := by
  have HR := Aside0.mk hr
  have HB64 := Aside0.mk hb
  have HL := Aside0.mk hl
  clear hr hb hl
  have hB := Below.refl w.heap.size w
  go_enter Try.func13, Try.ntmps13
  go_wp2
  go_loopg [3, 4] l.length (fun kq v3 v4 w' => ∃ i : Nat, v4 = .int .i64 (i : Int) ∧ Aside0 (i ≤ l.length ∧ l.length - i ≤ kq) ∧ Aside0 (kF.R 65 w' w.heap.size (fun _ => True) v3 (l.take i)) ∧ Aside0 (Below w.heap.size w w'))
  case atStart => exact ⟨0, rfl, ⟨by omega, by omega⟩, ⟨Kd.R_nil _ _ _ _ _⟩, ⟨hB⟩⟩
  case round =>
    obtain ⟨i, rfl, HI, HO, HB⟩ := hrel
    by_cases hlt : i < l.length
    · have d1 : decide ((i : Int) < (l.length : Int)) = true := decide_eq_true (by omega)
      have hw : wrap64 ((i : Int) + 1) = ((i + 1 : Nat) : Int) := by have := HL.out; unfold wrap64; omega
      have p1 : 0 ≤ (i : Int) := by omega
      have q1 : (i : Int) < (l.length : Int) := by omega
      have hrw : (Kd.int .u64).C wr A l.length l := Kd.C_below HR.out HB.out
      obtain ⟨ad, ea, hx⟩ := Kd.at_int hrw (i : Int) p1 q1
      subst ea
      clear hrw
      rw [Int.toNat_natCast] at hx
      have HT := Aside0.mk (take_more l i hlt)
      generalize rd l (i : Int) = x at *
      go_wp2_with (first | (go_at_call 37; refine (of_calls x _).mono ?_; rintro e w1 ⟨rfl, ⟨n1, rfl⟩⟩) | ((with_reducible refine gate_builtin (b := .append) (xs := #[.tmp 18, .tmp 24]) rfl ?_); at_builtin; refine Kd.R_append kF (w0 := w) w.heap.size rfl (.tmp 18) (.tmp 24) 86 65 (.float .f64 0) 8 rfl Try.underlying86 info65 rfl (by decide) (by omega) u3 (l.take i) x [fltOf x] (fun _ => True) (fun _ => False) rfl rfl ?aP (fun _ hk => hk.elim) ?aF ?aO ?aB ?aS ?aL ?_; (case aP => exact rfl); (case aF => exact (fun k_ hk => trivial)); (case aO => exact Kd.R_drewN HO.out _); (case aB => exact below_dn HB.out _); (case aS => exact HB.out.size); (case aL => have := HL.out; rw [List.length_take]; omega); intro v1 w2 ho hb2 hg hat; rw [HT.out] at ho; have HO2 := Aside0.mk ho; have HB2 := Aside0.mk hb2; clear ho hb2 hg hat HO HB))
      rw [hw]
      go_roundg (gk - 1)
      case measure => have := HI.out; omega
      case rel => exact ⟨i + 1, rfl, ⟨by have := HI.out; omega⟩, HO2, HB2⟩
    · obtain rfl : i = l.length := by have := HI.out; omega
      have d1 : decide ((l.length : Int) < (l.length : Int)) = false := decide_eq_false (by omega)
      have ho := HO.out
      rw [List.take_length] at ho
      obtain ⟨A1, c1, rfl, hle, hC⟩ := Kd.R_reads ho
      obtain ⟨k, r, hf, hat⟩ := ref_least l (by have := HL.out; omega) HB64.out
      have h51 : ∀ W, Below wr.heap.size wr W → Calls Try.prog 51 #[.slice A l.length c] W fun e w' => e = .returned (.int .i64 r) ∧ Drawn0 W w' := fun W hW =>
        oakumref01_Least.calls k A c l r W (Kd.C_below HR.out (below_then HB.out hW)) hc hf
      have h50 : ∀ W, Below wr.heap.size wr W → Calls Try.prog 50 #[.slice A1 l.length c1] W fun e w' => e = .returned (.tuple #[.float .f64 (bestOf (gl l l.length)), .bool (gl l l.length).isSome]) ∧ Below W.heap.size W w' := fun W hW =>
        least_calls A1 c1 l W (Kd.C_below hC hW) hle (by have := HL.out; omega) HB64.out
      rcases hat with ⟨rfl, hg⟩ | ⟨m, rfl, hm, hg⟩
      · rw [hg] at h50
        have h50 : ∀ W, Below wr.heap.size wr W → Calls Try.prog 50 #[.slice A1 l.length c1] W fun e w' => e = .returned (.tuple #[.float .f64 0, .bool false]) ∧ Below W.heap.size W w' := h50
        have h39 := bits_calls 0 (by omega)
        rw [if_neg (by decide)] at h39
        clear ho hC HO hf hg
        go_wp2_with (first | (go_at_call 50; refine (h50 _ ?b0).mono ?_; (case b0 => first | exact Below.refl _ _ | exact below_dn (Below.refl _ _) _); rintro e w2 ⟨rfl, hb2⟩) | (go_at_call 51; refine (h51 _ ?b0).mono ?_; (case b0 => first | exact hb2 | exact below_dn hb2 _); rintro e w3 ⟨rfl, ⟨n3, rfl⟩⟩) | (go_at_call 38; refine (alive_calls _).mono ?_; rintro e w1 ⟨rfl, hb1⟩) | (go_at_call 39; refine (h39 _).mono ?_; rintro e w4 ⟨rfl, ⟨n4, rfl⟩⟩))
        have b2 := below_then HB.out hb2
        have b3 : Below w.heap.size w w1 := by first | exact below_then b2 hb1 | exact below_then (below_dn b2 _) hb1
        go_ret
        exact ⟨rfl, by first | exact b3 | exact below_dn b3 _⟩
      · rw [hg] at h50
        have h50 : ∀ W, Below wr.heap.size wr W → Calls Try.prog 50 #[.slice A1 l.length c1] W fun e w' => e = .returned (.tuple #[.float .f64 (rd l (m : Int)).toNat, .bool true]) ∧ Below W.heap.size W w' := h50
        obtain ⟨b0, b1⟩ := HB64.out m hm
        have hn := gl_nan l _ _ hg
        have h39 := bits_calls _ b1
        rw [hn, if_neg (by decide), Int.toNat_of_nonneg b0] at h39
        have d2 : decide ((m : Int) < 0) = false := decide_eq_false (by omega)
        have p1 : 0 ≤ (m : Int) := by omega
        have q1 : (m : Int) < (l.length : Int) := by omega
        obtain ⟨ad, ea, _⟩ := Kd.at_int HR.out (m : Int) p1 q1
        subst ea
        have hcell : ∀ W, Below w.heap.size w W → W.cell? (ad.add m) = some (.int .u64 (rd l (m : Int))) := fun W hW => by
          obtain ⟨ad', e', h'⟩ := Kd.at_int (Kd.C_below HR.out hW) (m : Int) p1 q1
          cases e'
          rw [Int.toNat_natCast] at h'
          exact h'
        clear ho hC HO hf hg hn b0 b1
        generalize rd l (m : Int) = x at *
        go_wp2_with (first | (go_at_call 50; refine (h50 _ ?b0).mono ?_; (case b0 => first | exact Below.refl _ _ | exact below_dn (Below.refl _ _) _); rintro e w2 ⟨rfl, hb2⟩) | (go_at_call 51; refine (h51 _ ?b0).mono ?_; (case b0 => first | exact hb2 | exact below_dn hb2 _); rintro e w3 ⟨rfl, ⟨n3, rfl⟩⟩) | (go_at_call 38; refine (alive_calls _).mono ?_; rintro e w1 ⟨rfl, hb1⟩; have hx := hcell w1 (by first | exact below_then (below_then HB.out hb2) hb1 | exact below_then (below_dn (below_then HB.out hb2) _) hb1)) | (go_at_call 39; refine (h39 _).mono ?_; rintro e w4 ⟨rfl, ⟨n4, rfl⟩⟩))
        have hx2 := hcell w2 (below_then HB.out hb2)
        go_region_held3 (fun W => W.cell? (ad.add m) = some (.int .u64 x)) (first | exact hx2 | exact hx | go_keep)
          (first | (go_at_call 38; refine (alive_calls _).mono ?_; rintro e w1 ⟨rfl, hb1⟩; have hx := hcell w1 (by first | exact below_then (below_then HB.out hb2) hb1 | exact below_then (below_dn (below_then HB.out hb2) _) hb1 | exact below_then (below_dn (below_dn (below_then HB.out hb2) _) 1) hb1)) | (go_at_call 39; refine (h39 _).mono ?_; rintro e w4 ⟨rfl, ⟨n4, rfl⟩⟩))
        go_wp2
        have b2 := below_then HB.out hb2
        have b3 : Below w.heap.size w w1 := by first | exact below_then b2 hb1 | exact below_then (below_dn b2 _) hb1 | exact below_then (below_dn (below_dn b2 _) 1) hb1
        go_ret
        exact ⟨rfl, by first | exact b3 | exact below_dn b3 _⟩

theorem rd_get (l : List Int) (i : Nat) (h : i < l.length) : rd l (i : Int) = l[i] := by
  unfold rd
  rw [Int.toNat_natCast, List.getD_eq_getElem?_getD, List.getElem?_eq_getElem h]
  rfl

theorem bits_all (l : List Int) (hw : ∀ x ∈ l, (Lit.int .u64 x).wf = true) : Bits64 l := by
  intro i hi
  rw [rd_get l i hi]
  have := hw l[i] (List.getElem_mem hi)
  obtain ⟨m, e, hm⟩ := u64_nat this
  rw [e]
  exact ⟨by omega, by rw [Int.toNat_natCast]; exact hm⟩

end Go.Proofs.Ytfkbcldeohblpaa.U
namespace Go.Proofs.Ytfkbcldeohblpaa
open Go.RowKit Go.Proofs.YtfkbcldeohblpaaW.PrintWords
set_option linter.unusedVariables false

theorem GaugeLeast_walk (a : Option Addr) (len cap : Nat) (zs : List Int) (w : World)
    (h : (a = none ∧ len = 0 ∧ cap = 0 ∧ zs = []) ∨ ∃ x, a = some x ∧ len ≤ cap ∧ cap ≤ maxLen ∧ zs.length = cap ∧ (∀ i, i < zs.length → w.cell? (x.add i) = some (.int .u64 (zs.getD i 0))) ∧ ∀ n ∈ zs, (Lit.int .u64 n).wf = true) :
    Calls Try.prog 13 #[.slice a len cap] w fun e w' => e = .returned (.bool true) ∧ Below w.heap.size w w' := by
  obtain ⟨l, rfl, hr, hm, hw, hc⟩ := ReadsInt.ofRowC h
  by_cases c0 : (l.length : Int) > 100
  · exact U.least_many a cap l (decide_eq_true c0) w
  · exact U.least_few a cap l w (decide_eq_false c0) (by omega) (Kd.C_of_reads (d := (0 : Int)) (h1 := fun _ => rfl) hr) hc (U.bits_all l hw)

end Go.Proofs.Ytfkbcldeohblpaa
