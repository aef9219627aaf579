/- Plain laws on the printed functions of layout: rooms, pages and chunks of stores stand apart. -/
import Derived.Test.YtfkbcldeohblpaaLApartDef
import Derived.OpenShut
namespace Go.Proofs.Ytfkbcldeohblpaa
set_option linter.unusedVariables false
set_option linter.unusedSimpArgs false
open Go.RowKit Go.Proofs.YtfkbcldeohblpaaW.PrintWords

theorem wrap64_nat' (q : Nat) (h : q ≤ 9223372036854775807) : wrap64 (q : Int) = (q : Int) := by unfold wrap64; omega

/-- May the superblock be? -/
def SupOk (S o c : Nat) : Prop := 1 ≤ o ∧ o ≤ 1048576 ∧ 1 ≤ c ∧ c ≤ 128 ∧ S ≤ 1048576 ∧ o + 17 ≤ S

theorem la_none (S o c : Nat) (h : SupOk S o c) : PLayoutApart.layout_Layout_none.f S o c = some false := by
  unfold SupOk at h
  unfold PLayoutApart.layout_Layout_none.f
  rw [show ((S : Int) == 0) = false from beq_eq_false_iff_ne.2 (by omega)]
  rfl

theorem la_origin (S o c : Nat) (h : SupOk S o c) : PLayoutApart.layout_Layout_Origin.f S o c = some (17, (o : Int)) := by
  unfold PLayoutApart.layout_Layout_Origin.f
  rw [la_none S o c h, Option.bind_some, if_neg (by decide)]

theorem la_stores (S o c : Nat) (h : SupOk S o c) : PLayoutApart.layout_Layout_Stores.f S o c = some (((17 + o : Nat) : Int), ((S - 17 - o : Nat) : Int)) := by
  unfold PLayoutApart.layout_Layout_Stores.f
  rw [la_origin S o c h, Option.bind_some]
  dsimp only
  unfold SupOk at h
  have e1 : wrap64 (17 + (o : Int)) = ((17 + o : Nat) : Int) := by unfold wrap64; omega
  have e2 : wrap64 ((S : Int) - 17) = ((S - 17 : Nat) : Int) := by unfold wrap64; omega
  have e3 : wrap64 (((S - 17 : Nat) : Int) - (o : Int)) = ((S - 17 - o : Nat) : Int) := by unfold wrap64; omega
  rw [e1, e2, e3]

theorem la_slot (S o c : Nat) (i : Int) (h : SupOk S o c) (h0 : 0 ≤ i) (h1 : i < 16) : PLayoutApart.layout_Layout_Slot.f S o c i = some (1 + i, 0) := by
  unfold PLayoutApart.layout_Layout_Slot.f
  rw [la_none S o c h, Option.bind_some, if_neg (by decide), if_neg (by omega), if_neg (by omega)]
  congr 2
  unfold wrap64
  omega

/-- What a room tells. -/
def RoomTells (S o c : Nat) (x0 x1 : Int) (n e : Int) : Prop :=
  e ≠ 0 ∨ (e = 0 ∧ 0 ≤ x0 ∧ 0 ≤ x1 ∧ x0 + x1 ≤ 1048576 ∧ ∃ m : Nat, n = m ∧ 1 ≤ m ∧ ((szN c m : Nat) : Int) ≤ x1)

theorem la_room (k : Nat) (S o c : Nat) (x0 x1 : Int) (h : SupOk S o c) (hx : -9223372036854775808 ≤ x0 ∧ x0 ≤ 9223372036854775807) :
    ∃ n e, PLayoutApart.layout_Layout_Room.f (k + 1) S o c x0 x1 = some (n, e) ∧ RoomTells S o c x0 x1 n e := by
  unfold PLayoutApart.layout_Layout_Room.f
  rw [la_none S o c h, Option.bind_some, if_neg (by decide), la_stores S o c h, Option.bind_some]
  dsimp only
  have hbad : PLayoutApart.layout_Layout_Room.j0 (k + 1) true S o c x0 x1 = some (0, 2) := by rw [PLayoutApart.layout_Layout_Room.j0, if_pos rfl]
  have hno : RoomTells S o c x0 x1 0 2 := .inl (by omega)
  unfold SupOk at h
  by_cases q1 : x0 < ((17 + o : Nat) : Int)
  · rw [if_pos q1]; exact ⟨_, _, hbad, hno⟩
  · rw [if_neg q1]
    have e1 : wrap64 (x0 - ((17 + o : Nat) : Int)) = x0 - ((17 + o : Nat) : Int) := by unfold wrap64; omega
    rw [e1]
    by_cases q2 : x0 - ((17 + o : Nat) : Int) > ((S - 17 - o : Nat) : Int)
    · rw [if_pos q2]; exact ⟨_, _, hbad, hno⟩
    · rw [if_neg q2]
      by_cases q3 : x1 < 0
      · rw [if_pos q3]; exact ⟨_, _, hbad, hno⟩
      · rw [if_neg q3]
        have e2 : wrap64 (((S - 17 - o : Nat) : Int) - (x0 - ((17 + o : Nat) : Int))) = ((S - 17 - o : Nat) : Int) - (x0 - ((17 + o : Nat) : Int)) := by unfold wrap64; omega
        rw [e2]
        by_cases q4 : x1 > ((S - 17 - o : Nat) : Int) - (x0 - ((17 + o : Nat) : Int))
        · rw [decide_eq_true q4]; exact ⟨_, _, hbad, hno⟩
        · rw [decide_eq_false q4, PLayoutApart.layout_Layout_Room.j0, if_neg (by decide)]
          unfold PLayoutApart.layout_Layout_Geom.f
          rw [Option.bind_some]
          dsimp only
          have hr : (1 : Int) ≤ (o : Int) ∧ (o : Int) ≤ 1048576 ∧ (1 : Int) ≤ (c : Int) ∧ (c : Int) ≤ 128 := by omega
          have hx1 : x1 ≤ 1048576 := by omega
          have hro : geom_Geom_Room.f o c x1 = if roomTo c x1.toNat (x1.toNat / c) = 0 then some (0, 111) else some (((roomTo c x1.toNat (x1.toNat / c) : Nat) : Int), 0) := by
            unfold geom_Geom_Room.f
            rw [right_yes _ _ hr.1 hr.2.1 hr.2.2.1 hr.2.2.2, Option.bind_some, if_pos rfl, if_neg q3, if_neg (by omega), Int.toNat_natCast]
          rw [hro]
          split
          · rw [Option.bind_some]; exact ⟨_, _, rfl, .inl (by simp)⟩
          · rename_i h0
            rw [Option.bind_some]
            refine ⟨_, _, rfl, .inr ⟨rfl, by omega, by omega, by omega, _, rfl, by omega, ?_⟩⟩
            have := roomTo_fits c x1.toNat (x1.toNat / c) (by omega)
            omega

/-- How many pages n entries need. -/
def pagesN (m : Nat) : Nat := (m + 12) / 13

theorem la_pages (o c m : Nat) (h1 : 1 ≤ o) (h2 : o ≤ 1048576) (h3 : 1 ≤ c) (h4 : c ≤ 128) (hm : m ≤ 1048576) : PLayoutApart.geom_Geom_Pages.f o c m = some ((pagesN m : Nat) : Int) := by
  unfold PLayoutApart.geom_Geom_Pages.f
  rw [show PLayoutApart.geom_Geom_Right.f (o : Int) (c : Int) = some true from right_yes _ _ (by omega) (by omega) (by omega) (by omega), Option.bind_some, if_pos rfl, if_neg (by omega),
    show PLayoutApart.geom_up.f (m : Int) 13 = some (((m : Int) + 13 - 1) / 13) from up_eq _ 13 (by omega) (by omega) (by omega) (by omega), Option.bind_some]
  congr 1
  unfold pagesN
  omega

theorem szN_le {c m : Nat} (hc : 1 ≤ c) {x : Int} (h : ((szN c m : Nat) : Int) ≤ x) (hx : x ≤ 1048576) : m ≤ 1048576 ∧ 1 + pagesN m + m * c = szN c m := by
  unfold szN at *
  unfold pagesN
  have := Nat.le_mul_of_pos_right m hc
  exact ⟨by omega, rfl⟩

theorem la_page (k : Nat) (S o c : Nat) (x0 x1 i n e : Int) (h : SupOk S o c) (hr : PLayoutApart.layout_Layout_Room.f k S o c x0 x1 = some (n, e)) (ht : RoomTells S o c x0 x1 n e) :
    ∃ p f, PLayoutApart.layout_Layout_Page.f k S o c x0 x1 i = some (p, f) ∧ (f ≠ 0 ∨ (f = 0 ∧ e = 0 ∧ x0 < p ∧ p < x0 + 1 + (pagesN n.toNat : Nat))) := by
  unfold PLayoutApart.layout_Layout_Page.f
  rw [hr, Option.bind_some]
  dsimp only
  rcases ht with he | ⟨he, h0, h1, h2, m, rfl, hm, hs⟩
  · rw [if_neg he]; exact ⟨_, _, rfl, .inl he⟩
  · rw [if_pos he]
    unfold SupOk at h
    have hsz := szN_le (c := c) (by omega) hs (by omega)
    by_cases q : i < 0
    · rw [if_pos q]; exact ⟨_, _, rfl, .inl (by omega)⟩
    · rw [if_neg q]
      unfold PLayoutApart.layout_Layout_Geom.f
      rw [Option.bind_some]
      dsimp only
      rw [la_pages o c m (by omega) (by omega) (by omega) (by omega) hsz.1, Option.bind_some]
      by_cases q2 : i ≥ ((pagesN m : Nat) : Int)
      · rw [if_pos q2]; exact ⟨_, _, rfl, .inl (by omega)⟩
      · rw [if_neg q2]
        have hp : pagesN m ≤ 1048576 := by unfold pagesN; omega
        have e1 : wrap64 (x0 + 1) = x0 + 1 := by unfold wrap64; omega
        have e2 : wrap64 (x0 + 1 + i) = x0 + 1 + i := by unfold wrap64; omega
        rw [e1, e2]
        refine ⟨_, _, rfl, .inr ⟨rfl, he, by omega, ?_⟩⟩
        rw [Int.toNat_natCast]; omega

theorem la_chunk (k : Nat) (S o c : Nat) (x0 x1 i n e : Int) (h : SupOk S o c) (hr : PLayoutApart.layout_Layout_Room.f (k + 1) S o c x0 x1 = some (n, e)) (ht : RoomTells S o c x0 x1 n e) :
    ∃ a1 a2 g, PLayoutApart.layout_Layout_Chunk.f (k + 1) S o c x0 x1 i = some (a1, a2, g) ∧ (g ≠ 0 ∨ (g = 0 ∧ e = 0 ∧ 0 ≤ i ∧ i < n ∧ a1 = x0 + 1 + (pagesN n.toNat : Nat) + ((i.toNat * c : Nat) : Int) ∧ a2 = c)) := by
  unfold PLayoutApart.layout_Layout_Chunk.f
  rw [hr, Option.bind_some]
  dsimp only
  have hbad : ∃ a1 a2 g, PLayoutApart.layout_Layout_Chunk.j0 (k + 1) i n true S o c x0 x1 = some (a1, a2, g) ∧ (g ≠ 0 ∨ (g = 0 ∧ e = 0 ∧ 0 ≤ i ∧ i < n ∧ a1 = x0 + 1 + (pagesN n.toNat : Nat) + ((i.toNat * c : Nat) : Int) ∧ a2 = c)) :=
    ⟨0, 0, 2, by rw [PLayoutApart.layout_Layout_Chunk.j0, if_pos rfl], .inl (by omega)⟩
  rcases ht with he | ⟨he, h0, h1, h2, m, rfl, hm, hs⟩
  · rw [if_neg he]; exact ⟨_, _, _, rfl, .inl he⟩
  · rw [if_pos he]
    unfold SupOk at h
    have hsz := szN_le (c := c) (by omega) hs (by omega)
    by_cases q : i < 0
    · rw [if_pos q]; exact hbad
    · rw [if_neg q]
      by_cases q2 : i ≥ (m : Int)
      · rw [decide_eq_true q2]; exact hbad
      · rw [decide_eq_false q2, PLayoutApart.layout_Layout_Chunk.j0, if_neg (by decide)]
        unfold PLayoutApart.layout_Layout_Geom.f
        rw [Option.bind_some]
        dsimp only
        rw [la_pages o c m (by omega) (by omega) (by omega) (by omega) hsz.1, Option.bind_some]
        obtain ⟨j, rfl⟩ := Int.eq_ofNat_of_zero_le (show 0 ≤ i by omega)
        have hp : pagesN m ≤ 1048576 := by unfold pagesN; omega
        have hjc : j * c ≤ 1048576 * 128 := Nat.mul_le_mul (by omega) (by omega)
        have e0 : ((j : Int) * (c : Int)) = ((j * c : Nat) : Int) := by push_cast; rfl
        rw [e0, wrap64_nat' (j * c) (by omega)]
        have f1 : (0 : Int) ≤ (j : Int) := by omega
        have f2 : (j : Int) < (m : Int) := by omega
        generalize hq : j * c = q at *
        have e1 : wrap64 (x0 + 1) = x0 + 1 := by unfold wrap64; omega
        have e2 : wrap64 (x0 + 1 + ((pagesN m : Nat) : Int)) = x0 + 1 + ((pagesN m : Nat) : Int) := by unfold wrap64; omega
        have e3 : wrap64 (x0 + 1 + ((pagesN m : Nat) : Int) + (q : Int)) = x0 + 1 + ((pagesN m : Nat) : Int) + (q : Int) := by unfold wrap64; omega
        rw [e1, e2, e3]
        refine ⟨_, _, _, rfl, .inr ⟨rfl, he, f1, f2, ?_, rfl⟩⟩
        rw [Int.toNat_natCast, Int.toNat_natCast, hq]

theorem la_apart (a b c d : Int) (h0 : 0 ≤ a ∧ a ≤ 1099511627776) (h1 : 0 ≤ b ∧ b ≤ 1099511627776) (h2 : 0 ≤ c ∧ c ≤ 1099511627776) (h3 : 0 ≤ d ∧ d ≤ 1099511627776) (h : a + b ≤ c ∨ c + d ≤ a) :
    PLayoutApart.oakumlaw10_apart.f a b c d = some true := by
  unfold PLayoutApart.oakumlaw10_apart.f
  have e1 : wrap64 (a + b) = a + b := by unfold wrap64; omega
  have e2 : wrap64 (c + d) = c + d := by unfold wrap64; omega
  rw [e1, e2]
  by_cases q : a + b ≤ c
  · rw [if_pos q]
  · rw [if_neg q, decide_eq_true (show c + d ≤ a by omega)]

theorem la_super (S o c : Int) (ho : -9223372036854775808 ≤ o ∧ o ≤ 9223372036854775807) :
    (∃ S' o' c' : Nat, S = S' ∧ o = o' ∧ c = c' ∧ SupOk S' o' c' ∧ PLayoutApart.layout_Of.f S o c = some (S, o, c, 0)) ∨ PLayoutApart.layout_Of.f S o c = some (0, 0, 0, 1) := by
  unfold PLayoutApart.layout_Of.f PLayoutApart.super_Right.f PLayoutApart.geom_Geom_Right.f
  by_cases h1 : o ≥ 1
  · rw [if_pos h1]
    by_cases h2 : o ≤ 1048576
    · rw [if_pos h2]
      by_cases h3 : c ≥ 1
      · rw [if_pos h3]
        by_cases h4 : c ≤ 128
        · rw [decide_eq_true h4, Option.bind_some, if_pos rfl]
          by_cases h5 : S ≤ 1048576
          · rw [if_pos h5]
            have e : wrap64 (o + 17) = o + 17 := by unfold wrap64; omega
            rw [e]
            by_cases h6 : S ≥ o + 17
            · left
              refine ⟨S.toNat, o.toNat, c.toNat, by omega, by omega, by omega, ⟨by omega, by omega, by omega, by omega, by omega, by omega⟩, ?_⟩
              rw [decide_eq_true h6]; rfl
            · right; rw [decide_eq_false h6]; rfl
          · right; rw [if_neg h5]; rfl
        · right; rw [decide_eq_false h4]; rfl
      · right; rw [if_neg h3]; rfl
    · right; rw [if_neg h2]; rfl
  · right; rw [if_neg h1]; rfl

end Go.Proofs.Ytfkbcldeohblpaa
