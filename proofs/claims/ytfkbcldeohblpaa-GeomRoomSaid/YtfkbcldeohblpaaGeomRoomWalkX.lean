/- GeomRoom answers true at every input. -/
import Derived.Test.YtfkbcldeohblpaaGRoomWalk
import Derived.OpenShut
namespace Go.Proofs.Ytfkbcldeohblpaa
set_option linter.unusedVariables false
set_option linter.unusedSimpArgs false
open Go.RowKit Go.Proofs.YtfkbcldeohblpaaW.PrintWords

theorem szN_strict (c n : Nat) (hc : 1 ≤ c) : szN c n < szN c (n + 1) := by
  unfold szN
  rw [Nat.add_mul]
  omega

theorem roomTo_eq (c s N n : Nat) (h1 : n ≤ N) (h2 : n = 0 ∨ szN c n ≤ s) (h3 : n = N ∨ s < szN c (n + 1)) : roomTo c s N = n := by
  have hle := roomTo_le c s N
  by_cases a : roomTo c s N < n
  · have := roomTo_most c s N n a h1
    omega
  · by_cases b : n < roomTo c s N
    · have hf := roomTo_fits c s N (by omega)
      have := szN_mono c (n + 1) (roomTo c s N) b
      omega
    · omega

theorem size_any (o c n : Int) : ∃ x e, PGeomSpans.geom_Geom_Size.f o c n = some (x, e) ∧
    ((e = 0 ∧ (1 ≤ o ∧ o ≤ 1048576 ∧ 1 ≤ c ∧ c ≤ 128) ∧ 1 ≤ n ∧ n ≤ 1048576 ∧ x = ((szN c.toNat n.toNat : Nat) : Int)) ∨ (e ≠ 0 ∧ ¬ ((1 ≤ o ∧ o ≤ 1048576 ∧ 1 ≤ c ∧ c ≤ 128) ∧ 1 ≤ n ∧ n ≤ 1048576))) := by
  by_cases hr : 1 ≤ o ∧ o ≤ 1048576 ∧ 1 ≤ c ∧ c ≤ 128
  · by_cases h1 : n < 1
    · refine ⟨0, 2, ?_, .inr ⟨by omega, by omega⟩⟩
      unfold PGeomSpans.geom_Geom_Size.f
      rw [right_yes o c hr.1 hr.2.1 hr.2.2.1 hr.2.2.2]
      simp only [Option.bind_some, if_true]
      rw [if_pos h1]
    · by_cases h2 : n > 1048576
      · refine ⟨0, 2, ?_, .inr ⟨by omega, by omega⟩⟩
        unfold PGeomSpans.geom_Geom_Size.f
        rw [right_yes o c hr.1 hr.2.1 hr.2.2.1 hr.2.2.2]
        simp only [Option.bind_some, if_true]
        rw [if_neg h1, if_pos h2]
      · obtain ⟨m, rfl⟩ := Int.eq_ofNat_of_zero_le (show 0 ≤ n by omega)
        exact ⟨_, 0, size_eq o c m hr.1 hr.2.1 hr.2.2.1 hr.2.2.2 (by omega) (by omega), .inl ⟨rfl, hr, by omega, by omega, by rw [Int.toNat_natCast]⟩⟩
  · refine ⟨0, 1, ?_, .inr ⟨by omega, fun h => hr h.1⟩⟩
    unfold PGeomSpans.geom_Geom_Size.f
    rw [right_iff, decide_eq_false hr]
    rfl

theorem room_ok (o c s : Int) (hr : 1 ≤ o ∧ o ≤ 1048576 ∧ 1 ≤ c ∧ c ≤ 128) (h1 : 0 ≤ s) (h2 : s ≤ 1048576) :
    geom_Geom_Room.f o c s = if roomTo c.toNat s.toNat (s.toNat / c.toNat) = 0 then some (0, 111) else some (((roomTo c.toNat s.toNat (s.toNat / c.toNat) : Nat) : Int), 0) := by
  unfold geom_Geom_Room.f
  rw [right_yes o c hr.1 hr.2.1 hr.2.2.1 hr.2.2.2]
  simp only [Option.bind_some, if_true]
  rw [if_neg (by omega), if_neg (by omega)]

theorem room_j1 (k : Nat) (o c s : Int) : PGeomSpans.oakumlaw05_GeomRoom.j1 (k + 1) s o c = some true := by
  simp only [PGeomSpans.oakumlaw05_GeomRoom.j1]
  have hbad : ∀ e : Int, e ≠ 0 → geom_Geom_Room.f o c s = some (0, e) → ((geom_Geom_Room.f o c s).bind fun bt137 => (if bt137.2 = 0 then ((PGeomSpans.geom_Geom_Size.f o c bt137.1).bind fun bt139 => ((PGeomSpans.geom_Geom_Size.f o c (wrap64 (bt137.1 + 1))).bind fun bt141 => ((PGeomSpans.oakumlaw05_alive.f).bind fun t143 => (if t143 = true then (if bt139.2 = 0 then (if bt139.1 ≤ s then (if bt141.2 = 0 then (some (decide (bt141.1 > s))) else (some true)) else (some false)) else (some false)) else (some false))))) else ((PGeomSpans.oakumlaw05_alive.f).bind fun t144 => (if t144 = true then (some (bt137.1 == 0)) else (some false))))) = some true := by
    intro e he h
    rw [h, PGeomSpans.oakumlaw05_alive.yes]
    simp only [Option.bind_some, if_true]
    rw [if_neg he]
    rfl
  by_cases hr : 1 ≤ o ∧ o ≤ 1048576 ∧ 1 ≤ c ∧ c ≤ 128
  · by_cases h1 : s < 0
    · refine hbad 2 (by omega) ?_
      unfold geom_Geom_Room.f
      rw [right_yes o c hr.1 hr.2.1 hr.2.2.1 hr.2.2.2]
      simp only [Option.bind_some, if_true]
      rw [if_pos h1]
    · by_cases h2 : s > 1048576
      · refine hbad 2 (by omega) ?_
        unfold geom_Geom_Room.f
        rw [right_yes o c hr.1 hr.2.1 hr.2.2.1 hr.2.2.2]
        simp only [Option.bind_some, if_true]
        rw [if_neg h1, if_pos h2]
      · have hro := room_ok o c s hr (by omega) (by omega)
        obtain ⟨c, rfl⟩ := Int.eq_ofNat_of_zero_le (show 0 ≤ c by omega)
        obtain ⟨s, rfl⟩ := Int.eq_ofNat_of_zero_le (show 0 ≤ s by omega)
        simp only [Int.toNat_natCast] at hro
        by_cases h0 : roomTo c s (s / c) = 0
        · rw [if_pos h0] at hro
          exact hbad 111 (by omega) hro
        · rw [if_neg h0] at hro
          have hle := roomTo_le c s (s / c)
          have hfit := roomTo_fits c s (s / c) (by omega)
          have hmost := roomTo_most c s (s / c) (roomTo c s (s / c) + 1) (by omega)
          have hq : s / c ≤ s := Nat.div_le_self _ _
          have hbig : s / c < roomTo c s (s / c) + 1 → s < szN c (roomTo c s (s / c) + 1) := by
            intro h
            have := (Nat.div_lt_iff_lt_mul (show 0 < c by omega)).1 h
            unfold szN
            omega
          generalize roomTo c s (s / c) = m at *
          rw [hro]
          simp only [Option.bind_some, if_true]
          rw [size_eq o c m hr.1 hr.2.1 hr.2.2.1 hr.2.2.2 (by omega) (by omega), PGeomSpans.oakumlaw05_alive.yes]
          have e1 : wrap64 ((m : Int) + 1) = ((m + 1 : Nat) : Int) := by unfold wrap64; omega
          rw [e1]
          simp only [Option.bind_some, if_true, Int.toNat_natCast]
          obtain ⟨x, e, hs, hx⟩ := size_any o c ((m + 1 : Nat) : Int)
          rw [hs]
          simp only [Option.bind_some, if_true]
          rw [if_pos (by omega)]
          rcases hx with ⟨rfl, _, _, _, rfl⟩ | ⟨he, _⟩
          · rw [if_pos rfl]
            simp only [Int.toNat_natCast]
            congr 1
            apply decide_eq_true
            by_cases hlt : m + 1 ≤ s / c
            · have := hmost hlt; omega
            · have := hbig (by omega); omega
          · rw [if_neg he]
  · refine hbad 1 (by omega) ?_
    unfold geom_Geom_Room.f
    rw [right_iff, decide_eq_false hr]
    rfl

theorem room_j0 (k : Nat) (o c s : Int) (n : Nat) (hr : 1 ≤ o ∧ o ≤ 1048576 ∧ 1 ≤ c ∧ c ≤ 128) (h1 : 1 ≤ n) (h2 : n ≤ 1048576) (hx : ((szN c.toNat n : Nat) : Int) ≤ 1048576) :
    PGeomSpans.oakumlaw05_GeomRoom.j0 (k + 1 + 1) n s ((szN c.toNat n : Nat) : Int) true o c = some true := by
  simp only [PGeomSpans.oakumlaw05_GeomRoom.j0, if_true]
  obtain ⟨c, rfl⟩ := Int.eq_ofNat_of_zero_le (show 0 ≤ c by omega)
  simp only [Int.toNat_natCast] at hx ⊢
  have hc1 : 1 ≤ c := by omega
  have hx' : szN c n ≤ 1048576 := by omega
  have hn : n * c + 2 ≤ szN c n := by unfold szN; omega
  have hn2 : (n - 1) * c ≤ szN c n - 1 := by have := Nat.mul_le_mul_right c (show n - 1 ≤ n by omega); omega
  have r1 : roomTo c (szN c n) (szN c n / c) = n := by
    refine roomTo_eq _ _ _ _ ((Nat.le_div_iff_mul_le (by omega)).2 (by omega)) (.inr (Nat.le_refl _)) (.inr (szN_strict c n hc1))
  have r2 : roomTo c (szN c n - 1) ((szN c n - 1) / c) = n - 1 := by
    refine roomTo_eq _ _ _ _ ((Nat.le_div_iff_mul_le (by omega)).2 hn2) ?_ (.inr (by rw [show n - 1 + 1 = n by omega]; omega))
    by_cases h : n = 1
    · left; omega
    · right
      have := szN_strict c (n - 1) hc1
      rw [show n - 1 + 1 = n by omega] at this
      omega
  have e1 : wrap64 (((szN c n : Nat) : Int) - 1) = ((szN c n - 1 : Nat) : Int) := by unfold wrap64; omega
  have e2 : wrap64 ((n : Int) - 1) = ((n - 1 : Nat) : Int) := by unfold wrap64; omega
  rw [room_ok o c _ hr (by omega) (by omega), e1, e2, room_ok o c _ hr (by omega) (by omega)]
  simp only [Int.toNat_natCast]
  rw [r1, r2, if_neg (by omega)]
  simp only [Option.bind_some, if_true]
  by_cases h : n = 1
  · subst h
    rw [if_pos rfl]
    simp only [Option.bind_some]
    rw [if_pos (show (0 : Int) = ((1 - 1 : Nat) : Int) from rfl), if_neg (by decide)]
    exact room_j1 k o c s
  · rw [if_neg (by omega)]
    simp only [Option.bind_some, if_true]
    rw [if_neg (by rw [decide_eq_true (show (n : Int) > 1 by omega)]; decide)]
    exact room_j1 k o c s

theorem GeomRoom_walk (a b n s : Int) (wa : (Lit.int .i64 a).wf = true) (wb : (Lit.int .i64 b).wf = true) (wn : (Lit.int .i64 n).wf = true) (ws : (Lit.int .i64 s).wf = true) (w : World) :
    Calls Try.prog 5 #[.agg #[.int .i64 a, .int .i64 b], .int .i64 n, .int .i64 s] w fun e w' => e = .returned (.bool true) ∧ Below w.heap.size w w' := by
  refine PGeomSpans.oakumlaw05_GeomRoom.calls (0 + 1 + 1) a b n s true w (Aside0.mk rfl) ?_
  unfold PGeomSpans.oakumlaw05_GeomRoom.f
  obtain ⟨x, e, hs, hx⟩ := size_any a b n
  rw [hs]
  simp only [Option.bind_some]
  have hj : PGeomSpans.oakumlaw05_GeomRoom.j0 (0 + 1 + 1) n s x false a b = some true := by
    simp only [PGeomSpans.oakumlaw05_GeomRoom.j0]
    exact room_j1 0 a b s
  rcases hx with ⟨rfl, hr, h1, h2, rfl⟩ | ⟨he, _⟩
  · rw [if_pos rfl]
    obtain ⟨n, rfl⟩ := Int.eq_ofNat_of_zero_le (show 0 ≤ n by omega)
    simp only [Int.toNat_natCast] at hj ⊢
    by_cases h : ((szN b.toNat n : Nat) : Int) ≤ 1048576
    · rw [decide_eq_true h]
      exact room_j0 0 a b s n hr (by omega) (by omega) h
    · rw [decide_eq_false h]
      exact hj
  · rw [if_neg he]
    exact hj

end Go.Proofs.Ytfkbcldeohblpaa
