/- (geom.Geom).Room (function 25): the greatest n for which a store has so many sectors at most, or the error, at every geometry and number. -/
import Derived.Test.YtfkbcldeohblpaaGSearch
import Derived.Test.YtfkbcldeohblpaaPGeomSpansx1
import Derived.Shelf.Abstract
namespace Go.Proofs.Ytfkbcldeohblpaa
set_option linter.unusedVariables false
set_option linter.unusedSimpArgs false
open Go.RowKit Go.Shelf

/-- The sectors of a store with room for n chunks of c sectors. -/
def szN (c n : Nat) : Nat := 1 + (n + 12) / 13 + n * c

theorem szN_mono (c a b : Nat) (h : a ≤ b) : szN c a ≤ szN c b := by
  unfold szN
  have := Nat.mul_le_mul_right c h
  omega

/-- The greatest n up to N for which a store has s sectors at most (0: none). -/
def roomTo (c s : Nat) : Nat → Nat
  | 0 => 0
  | n + 1 => if szN c (n + 1) ≤ s then n + 1 else roomTo c s n

theorem roomTo_le (c s N : Nat) : roomTo c s N ≤ N := by
  induction N with
  | zero => exact Nat.le_refl _
  | succ n ih => unfold roomTo; split <;> omega

theorem roomTo_fits (c s N : Nat) (h : 0 < roomTo c s N) : szN c (roomTo c s N) ≤ s := by
  induction N with
  | zero => simp [roomTo] at h
  | succ n ih =>
    unfold roomTo at h ⊢
    split
    · assumption
    · rename_i hn; rw [if_neg hn] at h; exact ih h

theorem roomTo_most (c s N k : Nat) (h1 : roomTo c s N < k) (h2 : k ≤ N) : s < szN c k := by
  induction N with
  | zero => omega
  | succ n ih =>
    unfold roomTo at h1
    split at h1
    · omega
    · rename_i hn
      by_cases e : k = n + 1
      · subst e; omega
      · exact ih h1 (by omega)

theorem turns_room (c s N : Nat) : Turns N (roomTo c s N) (fun t => decide (s < szN c (t + 1))) := by
  refine ⟨roomTo_le c s N, fun t ht => ?_, fun t h1 h2 => ?_⟩
  · have h := roomTo_fits c s N (by omega)
    have := szN_mono c (t + 1) (roomTo c s N) (by omega)
    simp only [decide_eq_false_iff_not]; omega
  · simp only [decide_eq_true_eq]; exact roomTo_most c s N (t + 1) (by omega) (by omega)

/-- What Room computes. -/
def geom_Geom_Room.f (o c s : Int) : Option (Int × Int) :=
  (PGeomSpans.geom_Geom_Right.f o c).bind fun r =>
    if r = true then
      if s < 0 then some (0, 2) else if s > 1048576 then some (0, 2)
      else if roomTo c.toNat s.toNat (s.toNat / c.toNat) = 0 then some (0, 111) else some (((roomTo c.toNat s.toNat (s.toNat / c.toNat) : Nat) : Int), 0)
    else some (0, 1)

theorem right_iff (o c : Int) : PGeomSpans.geom_Geom_Right.f o c = some (decide (1 ≤ o ∧ o ≤ 1048576 ∧ 1 ≤ c ∧ c ≤ 128)) := by
  unfold PGeomSpans.geom_Geom_Right.f
  by_cases h1 : o ≥ 1
  · by_cases h2 : o ≤ 1048576
    · by_cases h3 : c ≥ 1
      · rw [if_pos h1, if_pos h2, if_pos h3]
        congr 1
        rw [decide_eq_decide]
        constructor
        · intro h; exact ⟨h1, h2, h3, h⟩
        · intro h; exact h.2.2.2
      · rw [if_pos h1, if_pos h2, if_neg h3]; congr 1; symm; rw [decide_eq_false_iff_not]; omega
    · rw [if_pos h1, if_neg h2]; congr 1; symm; rw [decide_eq_false_iff_not]; omega
  · rw [if_neg h1]; congr 1; symm; rw [decide_eq_false_iff_not]; omega

theorem right_yes (o c : Int) (h1 : 1 ≤ o) (h2 : o ≤ 1048576) (h3 : 1 ≤ c) (h4 : c ≤ 128) : PGeomSpans.geom_Geom_Right.f o c = some true := by
  rw [right_iff]; congr 1; exact decide_eq_true ⟨h1, h2, h3, h4⟩

theorem up_eq (n each : Int) (h0 : 0 ≤ n) (h1 : n ≤ 1048576) (h2 : 1 ≤ each) (h3 : each ≤ 128) : PGeomSpans.geom_up.f n each = some ((n + each - 1) / each) := by
  unfold PGeomSpans.geom_up.f
  rw [if_neg (by omega)]
  congr 1
  have e1 : wrap64 (n + each) = n + each := by unfold wrap64; omega
  have e2 : wrap64 (n + each - 1) = n + each - 1 := by unfold wrap64; omega
  rw [e1, e2, Int.tdiv_eq_ediv_of_nonneg (by omega)]
  have h4 : 0 ≤ (n + each - 1) / each := Int.ediv_nonneg (by omega) (by omega)
  have h5 : (n + each - 1) / each ≤ n + each - 1 := Int.ediv_le_self _ (by omega)
  unfold wrap64; omega

theorem size_eq (o c : Int) (n : Nat) (h1 : 1 ≤ o) (h2 : o ≤ 1048576) (h3 : 1 ≤ c) (h4 : c ≤ 128) (hn : 1 ≤ n) (hn2 : n ≤ 1048576) :
    PGeomSpans.geom_Geom_Size.f o c (n : Int) = some (((szN c.toNat n : Nat) : Int), 0) := by
  unfold PGeomSpans.geom_Geom_Size.f PGeomSpans.geom_Geom_Pages.f
  rw [right_yes o c h1 h2 h3 h4]
  simp only [Option.bind_some, if_true]
  rw [if_neg (by omega), if_neg (by omega), if_neg (by omega), up_eq (n : Int) 13 (by omega) (by omega) (by omega) (by omega)]
  simp only [Option.bind_some]
  congr 1
  obtain ⟨c', rfl⟩ := Int.eq_ofNat_of_zero_le (show 0 ≤ c by omega)
  have hm : n * c' ≤ 1048576 * 128 := Nat.mul_le_mul hn2 (by omega)
  have hm' : ((n * c' : Nat) : Int) = (n : Int) * (c' : Int) := by push_cast; rfl
  have e1 : wrap64 ((n : Int) * (c' : Int)) = (n : Int) * (c' : Int) := by rw [← hm']; unfold wrap64; omega
  have e2 : wrap64 (1 + ((n : Int) + 13 - 1) / 13) = 1 + ((n : Int) + 13 - 1) / 13 := by unfold wrap64; omega
  rw [e1, e2]
  have e3 : wrap64 (1 + ((n : Int) + 13 - 1) / 13 + (n : Int) * (c' : Int)) = 1 + ((n : Int) + 13 - 1) / 13 + (n : Int) * (c' : Int) := by rw [← hm']; unfold wrap64; omega
  rw [e3]
  unfold szN
  congr 1
  push_cast
  rw [Int.toNat_natCast]
  omega

set_option maxHeartbeats 4000000 in
set_option maxRecDepth 100000 in
/-- The closure of Room (function 56). -/
theorem room1_calls (bg bs : Nat) (o c s n : Int) (r1 r2 : Int) (w : World) (hs : bs < w.heap.size) (hn0 : 0 ≤ n) (hn1 : n ≤ 1048576)
    (h1 : w.cell? ⟨bg, 0, none⟩ = some (.int .i64 o)) (h2 : w.cell? ⟨bg, 1, none⟩ = some (.int .i64 c)) (h3 : w.cell? ⟨bs, 0, none⟩ = some (.int .i64 s))
    (h : PGeomSpans.geom_Geom_Size.f o c (n + 1) = some (r1, r2)) :
    Calls Try.prog 56 #[.int .i64 n, .pointer (some ⟨bg, 0, none⟩), .pointer (some ⟨bs, 0, none⟩)] w fun e w' => e = .returned (.bool (decide (s < r1))) ∧ Below w.heap.size w w' := by
  have H := Lib.hid h
  clear h
  go_enter Try.func56, Try.ntmps56
  go_wp2_with fail
  refine (PGeomSpans.geom_Geom_Size.calls o c (n + 1) r1 r2 _ H.out).mono ?_
  rintro e w1 ⟨rfl, hb⟩
  have h3' := (hb.cell (p := ⟨bs, 0, none⟩) hs).trans h3
  go_wp2
  go_ret
  exact ⟨rfl, hb⟩

/-- What stands in the two boxes of Room, in a world that has grown out of the one behind them. -/
theorem room_boxes (o c s : Int) (w w1 : World)
    (hb : Below ((w.alloc (.cells #[.int .i64 o, .int .i64 c] 23)).alloc (.cells #[.int .i64 s] 3)).heap.size ((w.alloc (.cells #[.int .i64 o, .int .i64 c] 23)).alloc (.cells #[.int .i64 s] 3)) w1) :
    w1.cell? ⟨w.heap.size, 0, none⟩ = some (.int .i64 o) ∧ w1.cell? ⟨w.heap.size, 1, none⟩ = some (.int .i64 c) ∧ w1.cell? ⟨w.heap.size + 1, 0, none⟩ = some (.int .i64 s) ∧ w.heap.size + 2 ≤ w1.heap.size ∧ Below w.heap.size w w1 := by
  have hz := hb.size
  simp only [World.size_alloc] at hz
  refine ⟨?_, ?_, ?_, hz, ?_⟩
  · rw [hb.cell (p := ⟨w.heap.size, 0, none⟩) (by simp; omega)]
    go_simp
  · rw [hb.cell (p := ⟨w.heap.size, 1, none⟩) (by simp; omega)]
    go_simp
  · rw [hb.cell (p := ⟨w.heap.size + 1, 0, none⟩) (by simp)]
    go_simp
  · exact (((Below.refl _ w).alloc (Nat.le_refl _) _).alloc (by simp) _).trans (hb.mono (by simp; omega))

set_option maxHeartbeats 4000000 in
set_option maxRecDepth 100000 in
theorem geom_Geom_Room.calls (o c s r1 r2 : Int) (w : World) (h : geom_Geom_Room.f o c s = some (r1, r2)) :
    Calls Try.prog 25 #[.agg #[.int .i64 o, .int .i64 c], .int .i64 s] w fun e w' => e = .returned (.tuple #[.int .i64 r1, .int .i64 r2]) ∧ Below w.heap.size w w' := by
  unfold geom_Geom_Room.f at h
  rw [right_iff] at h
  simp only [Option.bind_some, decide_eq_true_eq] at h
  have hu23 := Try.underlying23
  by_cases hr : 1 ≤ o ∧ o ≤ 1048576 ∧ 1 ≤ c ∧ c ≤ 128
  · rw [if_pos hr] at h
    obtain ⟨g1, g2, g3, g4⟩ := hr
    have HR := Lib.hid (right_yes o c g1 g2 g3 g4)
    by_cases hs0 : s < 0
    · rw [if_pos hs0] at h
      simp only [Option.some.injEq, Prod.mk.injEq] at h
      obtain ⟨rfl, rfl⟩ := h
      go_enter Try.func25, Try.ntmps25
      go_wp2_with fail
      refine (PGeomSpans.geom_Geom_Right.calls o c _ _ HR.out).mono ?_
      rintro e w1 ⟨rfl, hb⟩
      obtain ⟨b1, b2, b3, hz, hb'⟩ := room_boxes o c s w w1 hb
      go_wp2
      go_ret2
      exact ⟨rfl, hb'⟩
    · rw [if_neg hs0] at h
      by_cases hs1 : s > 1048576
      · rw [if_pos hs1] at h
        simp only [Option.some.injEq, Prod.mk.injEq] at h
        obtain ⟨rfl, rfl⟩ := h
        go_enter Try.func25, Try.ntmps25
        go_wp2_with fail
        refine (PGeomSpans.geom_Geom_Right.calls o c _ _ HR.out).mono ?_
        rintro e w1 ⟨rfl, hb⟩
        obtain ⟨b1, b2, b3, hz, hb'⟩ := room_boxes o c s w w1 hb
        have hd0 : decide (s < 0) = false := decide_eq_false (by omega)
        have hd1 : decide (1048576 < s) = true := decide_eq_true (by omega)
        clear hs0 hs1
        go_wp2
        go_ret2
        exact ⟨rfl, hb'⟩
      · rw [if_neg hs1] at h
        obtain ⟨cn, rfl⟩ := Int.eq_ofNat_of_zero_le (show 0 ≤ c by omega)
        obtain ⟨sn, rfl⟩ := Int.eq_ofNat_of_zero_le (show 0 ≤ s by omega)
        rw [Int.toNat_natCast, Int.toNat_natCast] at h
        have hq : ((sn : Int) / (cn : Int)) = ((sn / cn : Nat) : Int) := by push_cast; rfl
        have hql : sn / cn ≤ sn := Nat.div_le_self _ _
        have HT := turns_room cn sn (sn / cn)
        have HF : ∀ w1 : World, w1.cell? ⟨w.heap.size, 0, none⟩ = some (.int .i64 o) → w1.cell? ⟨w.heap.size, 1, none⟩ = some (.int .i64 cn) → w1.cell? ⟨w.heap.size + 1, 0, none⟩ = some (.int .i64 sn) →
            w.heap.size + 2 ≤ w1.heap.size → SearchFn 56 #[.pointer (some ⟨w.heap.size, 0, none⟩), .pointer (some ⟨w.heap.size + 1, 0, none⟩)] (sn / cn) (fun t => decide (sn < szN cn (t + 1))) w1 := by
          intro w1 b1 b2 b3 hz W hW i hi
          have hsz := size_eq o cn (i + 1) g1 g2 g3 g4 (by omega) (by omega)
          have hc := room1_calls w.heap.size (w.heap.size + 1) o cn sn i _ 0 W (by have := hW.size; omega) (by omega) (by omega) ((hW.cell (p := ⟨w.heap.size, 0, none⟩) (by simp; omega)).trans b1) ((hW.cell (p := ⟨w.heap.size, 1, none⟩) (by simp; omega)).trans b2) ((hW.cell (p := ⟨w.heap.size + 1, 0, none⟩) (by simp; omega)).trans b3)
            (by rw [show ((i : Int) + 1) = ((i + 1 : Nat) : Int) by omega]; exact hsz)
          refine hc.mono ?_
          rintro e w' ⟨rfl, hb⟩
          refine ⟨?_, hb⟩
          rw [Int.toNat_natCast]
          congr 2
          rw [decide_eq_decide]
          omega
        generalize hK : roomTo cn sn (sn / cn) = K at h HT
        have hKl : K ≤ sn / cn := HT.1
        have HQ := Lib.hid hq
        have HH := Lib.hid h
        clear hq h hK
        have hd0 : decide ((sn : Int) < 0) = false := decide_eq_false hs0
        have hd1 : decide (1048576 < (sn : Int)) = false := decide_eq_false hs1
        clear hs0
        go_enter Try.func25, Try.ntmps25
        go_wp2_with fail
        refine (PGeomSpans.geom_Geom_Right.calls o cn _ _ HR.out).mono ?_
        rintro e w1 ⟨rfl, hb⟩
        obtain ⟨b1, b2, b3, hz, hb'⟩ := room_boxes o cn sn w w1 hb
        go_wp2_with fail
        rw [HQ.out]
        refine (search_calls 56 _ (sn / cn) K _ w1 (enters_of Try.func56 (by kernel_rfl) rfl) (by omega) (HF w1 b1 b2 b3 hz) HT).mono ?_
        rintro e w2 ⟨rfl, hb2⟩
        by_cases hk : K = 0
        · have h := HH.out
          rw [if_pos hk] at h
          simp only [Option.some.injEq, Prod.mk.injEq] at h
          obtain ⟨rfl, rfl⟩ := h
          subst hk
          go_wp2
          go_ret2
          exact ⟨rfl, hb'.trans (hb2.mono (by omega))⟩
        · have h := HH.out
          rw [if_neg hk] at h
          simp only [Option.some.injEq, Prod.mk.injEq] at h
          obtain ⟨rfl, rfl⟩ := h
          have hk2 : ((K : Int) == 0) = false := beq_eq_false_iff_ne.2 (by omega)
          clear hk
          go_wp2
          go_ret2
          exact ⟨rfl, hb'.trans (hb2.mono (by omega))⟩
  · rw [if_neg hr] at h
    simp only [Option.some.injEq, Prod.mk.injEq] at h
    obtain ⟨rfl, rfl⟩ := h
    have HR := Lib.hid (show PGeomSpans.geom_Geom_Right.f o c = some false by rw [right_iff]; congr 1; exact decide_eq_false hr)
    clear hr
    go_enter Try.func25, Try.ntmps25
    go_wp2_with fail
    refine (PGeomSpans.geom_Geom_Right.calls o c _ _ HR.out).mono ?_
    rintro e w1 ⟨rfl, hb⟩
    obtain ⟨b1, b2, b3, hz, hb'⟩ := room_boxes o c s w w1 hb
    go_wp2
    go_ret2
    exact ⟨rfl, hb'⟩

end Go.Proofs.Ytfkbcldeohblpaa
