/- LayoutApart's printed function answers true at every input. -/
import Derived.Test.YtfkbcldeohblpaaLPure
namespace Go.Proofs.Ytfkbcldeohblpaa
set_option linter.unusedVariables false
set_option linter.unusedSimpArgs false
open Go.RowKit Go.Proofs.YtfkbcldeohblpaaW.PrintWords

theorem apart_j3 (k : Nat) (i j g h a1 a2 b1 b2 : Int) (hab : g = 0 → h = 0 → i ≠ j → PLayoutApart.oakumlaw10_apart.f a1 a2 b1 b2 = some true) :
    PLayoutApart.oakumlaw10_LayoutApart.j3 (k + 1 + 1) i j g h false a1 a2 b1 b2 = some true := by
  rw [PLayoutApart.oakumlaw10_LayoutApart.j3, if_neg (by decide), PLayoutApart.oakumlaw10_alive.yes, Option.bind_some, if_pos rfl]
  by_cases q1 : g = 0
  · rw [if_pos q1]
    by_cases q2 : h = 0
    · rw [if_pos q2]
      by_cases q3 : i = j
      · rw [if_pos q3]
      · rw [if_neg q3, hab q1 q2 q3, Option.bind_some]
    · rw [if_neg q2]
  · rw [if_neg q1]

theorem apart_j2 (k : Nat) (i j g h x0 x1 a1 a2 b1 b2 : Int) (h1 : g = 0 → ¬ (a1 ≤ x0)) (h2 : g = 0 → ¬ (wrap64 (a1 + a2) > wrap64 (x0 + x1)))
    (hab : g = 0 → h = 0 → i ≠ j → PLayoutApart.oakumlaw10_apart.f a1 a2 b1 b2 = some true) :
    PLayoutApart.oakumlaw10_LayoutApart.j2 (k + 1 + 1 + 1) i j g h false x0 x1 a1 a2 b1 b2 = some true := by
  rw [PLayoutApart.oakumlaw10_LayoutApart.j2, if_neg (by decide)]
  by_cases q1 : g = 0
  · rw [if_pos q1, if_neg (h1 q1), decide_eq_false (h2 q1)]
    exact apart_j3 k i j g h a1 a2 b1 b2 hab
  · rw [if_neg q1]
    exact apart_j3 k i j g h a1 a2 b1 b2 hab

theorem apart_j1 (k : Nat) (S o c : Nat) (x0 x1 i j : Int) (hs : SupOk S o c) (hx : -9223372036854775808 ≤ x0 ∧ x0 ≤ 9223372036854775807) :
    PLayoutApart.oakumlaw10_LayoutApart.j1 (k + 1 + 1 + 1 + 1) i j false x0 x1 S o c = some true := by
  obtain ⟨n, e, hr, ht⟩ := la_room (k + 1 + 1) S o c x0 x1 hs hx
  obtain ⟨p, f, hp, hpf⟩ := la_page (k + 1 + 1 + 1) S o c x0 x1 i n e hs hr ht
  obtain ⟨a1, a2, g, ha, hag⟩ := la_chunk (k + 1 + 1) S o c x0 x1 i n e hs hr ht
  obtain ⟨b1, b2, h, hb, hbh⟩ := la_chunk (k + 1 + 1) S o c x0 x1 j n e hs hr ht
  rw [PLayoutApart.oakumlaw10_LayoutApart.j1, if_neg (by decide), hp, Option.bind_some, ha, Option.bind_some, hb, Option.bind_some]
  dsimp only
  clear hp ha hb hr
  -- the facts of a store that is there
  have hge : e = 0 → 0 ≤ x0 ∧ 0 ≤ x1 ∧ x0 + x1 ≤ 1048576 ∧ ∃ m : Nat, n = m ∧ 1 ≤ m ∧ m ≤ 1048576 ∧ ((1 + pagesN m + m * c : Nat) : Int) ≤ x1 := by
    intro he
    rcases ht with h' | ⟨_, h0, h1, h2, m, rfl, hm, hfit⟩
    · exact absurd he h'
    · unfold SupOk at hs
      have hsz := szN_le (c := c) (by omega) hfit (by omega)
      exact ⟨h0, h1, h2, m, rfl, hm, hsz.1, by rw [hsz.2]; exact hfit⟩
  have hchunk : ∀ (q u1 u2 t : Int), (t ≠ 0 ∨ (t = 0 ∧ e = 0 ∧ 0 ≤ q ∧ q < n ∧ u1 = x0 + 1 + (pagesN n.toNat : Nat) + ((q.toNat * c : Nat) : Int) ∧ u2 = c)) → t = 0 →
      x0 + 1 + (pagesN n.toNat : Nat) ≤ u1 ∧ u1 + u2 ≤ x0 + x1 ∧ 0 ≤ u2 ∧ u2 ≤ 128 ∧ 0 ≤ x0 ∧ x0 + x1 ≤ 1048576 := by
    intro q u1 u2 t hq h0
    rcases hq with h' | ⟨_, he, q0, qn, rfl, rfl⟩
    · exact absurd h0 h'
    · obtain ⟨g1, g2, g3, m, rfl, m1, m2, hfit⟩ := hge he
      rw [Int.toNat_natCast] at *
      have hmul : (q.toNat + 1) * c ≤ m * c := Nat.mul_le_mul_right c (by omega)
      rw [Nat.add_mul] at hmul
      unfold SupOk at hs
      refine ⟨by omega, by omega, by omega, by omega, g1, g3⟩
  have hab : g = 0 → h = 0 → i ≠ j → PLayoutApart.oakumlaw10_apart.f a1 a2 b1 b2 = some true := by
    intro h1 h2 hij
    obtain ⟨c1, c2, c3, c4, c5, c6⟩ := hchunk i a1 a2 g hag h1
    obtain ⟨d1, d2, d3, d4, d5, d6⟩ := hchunk j b1 b2 h hbh h2
    refine la_apart a1 a2 b1 b2 (by omega) (by omega) (by omega) (by omega) ?_
    rcases hag with h' | ⟨_, _, i0, _, rfl, rfl⟩
    · exact absurd h1 h'
    · rcases hbh with h' | ⟨_, _, j0, _, rfl, rfl⟩
      · exact absurd h2 h'
      · rcases Int.lt_or_lt_of_ne hij with hlt | hlt
        · left
          have : (i.toNat + 1) * c ≤ j.toNat * c := Nat.mul_le_mul_right c (by omega)
          rw [Nat.add_mul] at this
          omega
        · right
          have : (j.toNat + 1) * c ≤ i.toNat * c := Nat.mul_le_mul_right c (by omega)
          rw [Nat.add_mul] at this
          omega
  have hj2 : PLayoutApart.oakumlaw10_LayoutApart.j2 (k + 1 + 1 + 1) i j g h false x0 x1 a1 a2 b1 b2 = some true := by
    refine apart_j2 k i j g h x0 x1 a1 a2 b1 b2 (fun h1 => ?_) (fun h1 => ?_) hab
    · obtain ⟨c1, c2, c3, c4, c5, c6⟩ := hchunk i a1 a2 g hag h1
      omega
    · obtain ⟨c1, c2, c3, c4, c5, c6⟩ := hchunk i a1 a2 g hag h1
      have e1 : wrap64 (a1 + a2) = a1 + a2 := by unfold wrap64; omega
      have e2 : wrap64 (x0 + x1) = x0 + x1 := by unfold wrap64; omega
      rw [e1, e2]
      clear e1 e2
      omega
  by_cases q1 : f = 0
  · rw [if_pos q1]
    rcases hpf with h' | ⟨_, he, p0, p1⟩
    · exact absurd q1 h'
    · obtain ⟨g1, g2, g3, m, rfl, m1, m2, hfit⟩ := hge he
      have hpx : ¬ (p ≤ x0) := by omega
      have hpy : ¬ (p ≥ x0 + x1) := by rw [Int.toNat_natCast] at p1; omega
      have hpage : ∀ (q u1 u2 t : Int), (t ≠ 0 ∨ (t = 0 ∧ e = 0 ∧ 0 ≤ q ∧ q < (m : Int) ∧ u1 = x0 + 1 + (pagesN (m : Int).toNat : Nat) + ((q.toNat * c : Nat) : Int) ∧ u2 = c)) → t = 0 → PLayoutApart.oakumlaw10_apart.f p 1 u1 u2 = some true := by
        intro q u1 u2 t hq h0
        obtain ⟨c1, c2, c3, c4, c5, c6⟩ := hchunk q u1 u2 t hq h0
        exact la_apart p 1 u1 u2 (by omega) (by omega) (by omega) (by omega) (.inl (by omega))
      have e2 : wrap64 (x0 + x1) = x0 + x1 := by unfold wrap64; omega
      rw [if_neg hpx, e2, if_neg hpy]
      by_cases q2 : g = 0
      · rw [if_pos q2, hpage i a1 a2 g hag q2, Option.bind_some, if_pos rfl]
        by_cases q3 : h = 0
        · rw [if_pos q3, hpage j b1 b2 h hbh q3, Option.bind_some]; exact hj2
        · rw [if_neg q3]; exact hj2
      · rw [if_neg q2]
        by_cases q3 : h = 0
        · rw [if_pos q3, hpage j b1 b2 h hbh q3, Option.bind_some]; exact hj2
        · rw [if_neg q3]; exact hj2
  · rw [if_neg q1]
    exact hj2

theorem apart_j0 (k : Nat) (S o c : Nat) (x0 x1 i j : Int) (hs : SupOk S o c) (hx : -9223372036854775808 ≤ x0 ∧ x0 ≤ 9223372036854775807) :
    PLayoutApart.oakumlaw10_LayoutApart.j0 (k + 1 + 1 + 1 + 1 + 1) i j false S o c x0 x1 S o c = some true := by
  rw [PLayoutApart.oakumlaw10_LayoutApart.j0, if_neg (by decide), la_slot S o c 0 hs (by omega) (by omega), la_slot S o c 15 hs (by omega) (by omega), la_origin S o c hs, la_stores S o c hs,
    Option.bind_some, Option.bind_some, Option.bind_some, Option.bind_some]
  dsimp only
  have hj := apart_j1 k S o c x0 x1 i j hs hx
  unfold SupOk at hs
  have e1 : wrap64 (17 + (o : Int)) = ((17 + o : Nat) : Int) := by unfold wrap64; omega
  have e2 : wrap64 (((17 + o : Nat) : Int) + ((S - 17 - o : Nat) : Int)) = (S : Int) := by unfold wrap64; omega
  have e3 : decide (((S - 17 - o : Nat) : Int) < 0) = false := decide_eq_false (by omega)
  rw [e1, e2, e3, if_pos (by decide), if_pos (by decide +kernel), if_pos rfl, if_pos rfl]
  exact hj

theorem apart_main (k : Nat) (S o c x0 x1 i j : Int) (ho : -9223372036854775808 ≤ o ∧ o ≤ 9223372036854775807) (hx : -9223372036854775808 ≤ x0 ∧ x0 ≤ 9223372036854775807) :
    PLayoutApart.oakumlaw10_LayoutApart.f (k + 1 + 1 + 1 + 1 + 1) S o c x0 x1 i j = some true := by
  unfold PLayoutApart.oakumlaw10_LayoutApart.f
  have halive : ∀ a b d e f : Int, PLayoutApart.oakumlaw10_LayoutApart.j0 (k + 1 + 1 + 1 + 1 + 1) i j true a b d x0 x1 e f 0 = some true ∧ ∀ z, PLayoutApart.oakumlaw10_LayoutApart.j0 (k + 1 + 1 + 1 + 1 + 1) i j true a b d x0 x1 e f z = some true := by
    intro a b d e f
    have : ∀ z, PLayoutApart.oakumlaw10_LayoutApart.j0 (k + 1 + 1 + 1 + 1 + 1) i j true a b d x0 x1 e f z = some true := by
      intro z
      rw [PLayoutApart.oakumlaw10_LayoutApart.j0, if_pos rfl, PLayoutApart.oakumlaw10_alive.yes, Option.bind_some]
    exact ⟨this 0, this⟩
  rcases la_super S o c ho with ⟨S', o', c', rfl, rfl, rfl, hs, h⟩ | h
  · rw [h, Option.bind_some]
    dsimp only
    rw [if_pos rfl]
    by_cases q : x1 > 4000
    · rw [decide_eq_true q]; exact (halive _ _ _ _ _).2 _
    · rw [decide_eq_false q]; exact apart_j0 k S' o' c' x0 x1 i j hs hx
  · rw [h, Option.bind_some]
    dsimp only
    rw [if_neg (by omega)]
    exact (halive _ _ _ _ _).1

end Go.Proofs.Ytfkbcldeohblpaa
