-- PRINTED BY print.sh 35421559b90ae4d0a3588c463048766b98c2df88dd9212a6774a882060cdf62d: not written by this session
import Derived.Test.YtfkbcldeohblpaaPGeomSpansx0
import Derived.Test.YtfkbcldeohblpaaPGeomSpansx1
namespace Go.Proofs.Ytfkbcldeohblpaa.PGeomSpans
open Go.RowKit Go.Proofs.YtfkbcldeohblpaaW.PrintWords Go.Proofs.YtfkbcldeohblpaaW.PrintLast Go.Proofs.YtfkbcldeohblpaaW.PrintMore
attribute [local go_sem] max2_int min2_int max_two min_two max_three min_three max_four min_four   -- for this text's walks alone
set_option linter.unusedVariables false
set_option linter.unusedSimpArgs false

/-! ### oakumref05_Split: function 18 -/
mutual
def oakumref05_Split.j0 : Nat → Int → Bool → Int → Int → Option ((List (S94)) × Int)
  | 0, _, _, _, _ => none
  | k + 1, x1, x39, x124000, x124001 => if x39 = true then (some (([] : List (S94)), 2)) else (oakumref05_Split.l0 k x1 ([] : List (S94)) 0 x124000 x124001)
def oakumref05_Split.l0 : Nat → Int → List (S94) → Int → Int → Int → Option ((List (S94)) × Int)
  | 0, _, _, _, _, _ => none
  | k + 1, x1, x9, x10, x124000, x124001 => if x10 < x124001 then (if x10 > 0 then (if x1 = 0 then (none) else (if (Int.tmod (wrap64 (x124000 + x10)) x1) = 0 then (if x9.length < 5864062014805 then (oakumref05_Split.l0 k x1 (x9 ++ [(⟨wrap64 (Int.tdiv (wrap64 (x124000 + x10)) x1), Int.tmod (wrap64 (x124000 + x10)) x1, 1⟩ : S94)]) (wrap64 (x10 + 1)) x124000 x124001) else (none)) else (if 0 ≤ (wrap64 ((x9.length : Int) - 1)) then (if (wrap64 ((x9.length : Int) - 1)) < (x9.length : Int) then (oakumref05_Split.l0 k x1 (x9.set ((wrap64 ((x9.length : Int) - 1)) : Int).toNat (⟨(rd_T94 x9 (wrap64 ((x9.length : Int) - 1))).f0, (rd_T94 x9 (wrap64 ((x9.length : Int) - 1))).f1, wrap64 (((rd_T94 x9 (wrap64 ((x9.length : Int) - 1))).f2) + 1)⟩ : S94)) (wrap64 (x10 + 1)) x124000 x124001) else (none)) else (none)))) else (if x1 = 0 then (none) else (if x9.length < 5864062014805 then (oakumref05_Split.l0 k x1 (x9 ++ [(⟨wrap64 (Int.tdiv (wrap64 (x124000 + x10)) x1), Int.tmod (wrap64 (x124000 + x10)) x1, 1⟩ : S94)]) (wrap64 (x10 + 1)) x124000 x124001) else (none)))) else (some (x9, 0))
end
def oakumref05_Split.f (k : Nat) (a0 : Int) (a1 : Int) (a2_0 : Int) (a2_1 : Int) : Option ((List (S94)) × Int) := (oakumref05_Right.f a0 a1).bind fun t124 => (if t124 = true then (if a2_0 < 0 then (oakumref05_Split.j0 k a1 true a2_0 a2_1) else (if a2_1 < 0 then (oakumref05_Split.j0 k a1 true a2_0 a2_1) else (if a2_0 > a0 then (oakumref05_Split.j0 k a1 true a2_0 a2_1) else (oakumref05_Split.j0 k a1 (decide (a2_1 > (wrap64 (a0 - a2_0)))) a2_0 a2_1)))) else (some (([] : List (S94)), 1)))
theorem oakumref05_Split.mono_l : ∀ k, (∀ y0 y1 y2 y3, LeO (oakumref05_Split.j0 k y0 y1 y2 y3) (oakumref05_Split.j0 (k + 1) y0 y1 y2 y3)) ∧ (∀ y0 y1 y2 y3 y4, LeO (oakumref05_Split.l0 k y0 y1 y2 y3 y4) (oakumref05_Split.l0 (k + 1) y0 y1 y2 y3 y4))
  | 0 => ⟨fun _ _ _ _ r h => by simp [oakumref05_Split.j0] at h, fun _ _ _ _ _ r h => by simp [oakumref05_Split.l0] at h⟩
  | k + 1 => by
    obtain ⟨ih0, ih1⟩ := oakumref05_Split.mono_l k
    refine ⟨?_, ?_⟩
    · intro y0 y1 y2 y3
      unfold oakumref05_Split.j0
      repeat' first
      | (with_reducible exact ih0 _ _ _ _)
      | (with_reducible exact ih1 _ _ _ _ _)
      | (with_reducible exact LeO.refl _)
      | (with_reducible exact LeO.none _)
      | (with_reducible refine LeO.ite ?_ ?_)
      | (with_reducible refine LeO.bind ?_ (fun _ => ?_))
      | exact ih0 _ _ _ _
      | exact ih1 _ _ _ _ _
      | exact LeO.none _
      | refine LeO.ite ?_ ?_
      | refine LeO.bind ?_ (fun _ => ?_)
    · intro y0 y1 y2 y3 y4
      unfold oakumref05_Split.l0
      repeat' first
      | (with_reducible exact ih0 _ _ _ _)
      | (with_reducible exact ih1 _ _ _ _ _)
      | (with_reducible exact LeO.refl _)
      | (with_reducible exact LeO.none _)
      | (with_reducible refine LeO.ite ?_ ?_)
      | (with_reducible refine LeO.bind ?_ (fun _ => ?_))
      | exact ih0 _ _ _ _
      | exact ih1 _ _ _ _ _
      | exact LeO.none _
      | refine LeO.ite ?_ ?_
      | refine LeO.bind ?_ (fun _ => ?_)
theorem oakumref05_Split.mono : ∀ a0 a1 a2 a3 k, LeO (oakumref05_Split.f k a0 a1 a2 a3) (oakumref05_Split.f (k + 1) a0 a1 a2 a3) := by
  intro a0 a1 a2 a3 k
  obtain ⟨ih0, ih1⟩ := oakumref05_Split.mono_l k
  unfold oakumref05_Split.f
  repeat' first
      | (with_reducible exact ih0 _ _ _ _)
      | (with_reducible exact ih1 _ _ _ _ _)
      | (with_reducible exact LeO.refl _)
      | (with_reducible exact LeO.none _)
      | (with_reducible refine LeO.ite ?_ ?_)
      | (with_reducible refine LeO.bind ?_ (fun _ => ?_))
      | exact ih0 _ _ _ _
      | exact ih1 _ _ _ _ _
      | exact LeO.none _
      | refine LeO.ite ?_ ?_
      | refine LeO.bind ?_ (fun _ => ?_)
def oakumref05_Split.T13 : Bool × List (List Nat × List Nat) := (true, [([], []), ([], []), ([], []), ([1, 2], [1, 2]), ([], []), ([], []), ([4, 5], [4, 5]), ([3, 6], [3, 6]), ([7], [7]), ([0, 8], [0, 8]), ([9, 9, 0, 1, 2, 3, 4, 5, 6, 7, 8, 9], [0, 9])])
def oakumref05_Split.B13 : List Nat := [0, 0, 0, 6, 0, 0, 48, 126, 254, 511, 1023]
theorem oakumref05_Split.tab13 : rtab .any (opsOf Try.f18 13) = oakumref05_Split.T13 := by kernel_rfl
theorem oakumref05_Split.bits13 : waitsOk oakumref05_Split.T13.2 oakumref05_Split.B13 = true := by kernel_rfl
set_option maxHeartbeats 8000000 in
set_option maxRecDepth 100000 in
theorem oakumref05_Split.calls (k : Nat) (a0 : Int) (a1 : Int) (a2_0 : Int) (a2_1 : Int) (r1 : List (S94)) (r2 : Int) (w : World) (h : oakumref05_Split.f k a0 a1 a2_0 a2_1 = some (r1, r2)) :
    Calls Try.prog 18 #[.int .i64 a0, .int .i64 a1, .agg #[.int .i64 a2_0, .int .i64 a2_1]] w fun e w' => ∃ v0_ : Value, e = .returned (.tuple #[v0_, .int .i64 r2]) ∧ Kd.R k94 94 w' w.heap.size (fun _ => True) v0_ r1 ∧ Below w.heap.size w w' := by
  have hu25 := Try.underlying25
  have hu94 := Try.underlying94
  have HB := Aside0.mk (Below.refl w.heap.size w)
  have H : ((oakumref05_Right.f a0 a1).bind fun t124 => (if t124 = true then (if a2_0 < 0 then (oakumref05_Split.j0 k a1 true a2_0 a2_1) else (if a2_1 < 0 then (oakumref05_Split.j0 k a1 true a2_0 a2_1) else (if a2_0 > a0 then (oakumref05_Split.j0 k a1 true a2_0 a2_1) else (oakumref05_Split.j0 k a1 (decide (a2_1 > (wrap64 (a0 - a2_0)))) a2_0 a2_1)))) else (some (([] : List (S94)), 1)))) = some (r1, r2) := h
  clear h
  replace H := Option.bind_eq_some_iff.mp H
  obtain ⟨t124, A40, H⟩ := H
  replace H : (if t124 = true then (if a2_0 < 0 then (oakumref05_Split.j0 k a1 true a2_0 a2_1) else (if a2_1 < 0 then (oakumref05_Split.j0 k a1 true a2_0 a2_1) else (if a2_0 > a0 then (oakumref05_Split.j0 k a1 true a2_0 a2_1) else (oakumref05_Split.j0 k a1 (decide (a2_1 > (wrap64 (a0 - a2_0)))) a2_0 a2_1)))) else (some (([] : List (S94)), 1))) = some (r1, r2) := H
  have A4 := Aside0.mk A40
  clear A40
  by_cases c5 : t124 = true
  · subst c5
    have H1 : (if a2_0 < 0 then (oakumref05_Split.j0 k a1 true a2_0 a2_1) else (if a2_1 < 0 then (oakumref05_Split.j0 k a1 true a2_0 a2_1) else (if a2_0 > a0 then (oakumref05_Split.j0 k a1 true a2_0 a2_1) else (oakumref05_Split.j0 k a1 (decide (a2_1 > (wrap64 (a0 - a2_0)))) a2_0 a2_1)))) = some (r1, r2) := by rw [if_pos rfl] at H; exact H
    clear H
    have H := H1
    clear H1
    have HC6 := Aside0.mk H
    clear H
    go_enter Try.func18, Try.ntmps18
    go_upto_region 4 with (first | ((with_reducible refine gate_dst (N := 5) rfl ?_); refine box_event ?hg (N := 5) ?hd (cs := #[.int .i64 a2_0, .int .i64 a2_1]) (t := 25) ?hr ?_; (case hd => rfl); (case hg => rfl); (case hr => first | (go_simp; done) | (go_simp; rfl)); intro gb123 hg w7 hbox hb; have n0_ := Aside0.mk (below_step (by repeat (first | (with_reducible first | exact HB.out | apply below_alloc | apply pw_below_drewN | apply below_drew1) | exact HB.out)) hb); have n1_ := Aside0.mk (hbox); have n2_ := Aside0.mk ((by rw [hg]; exact (below_size (by repeat (first | (with_reducible first | exact HB.out | apply below_alloc | apply pw_below_drewN | apply below_drew1) | exact HB.out))) : w.heap.size ≤ gb123)); have n3_ := Aside0.mk ((by rw [hg]; exact (below_size (by repeat (first | (with_reducible first | exact HB.out | apply below_alloc | apply pw_below_drewN | apply below_drew1) | exact HB.out))) : w.heap.size ≤ gb123)); clear HB; have HB := n0_; have BK123 := n1_; have GW123 := n2_; have GE123 := n3_; clear n0_ n1_ n2_ n3_; clear hb hbox hg) | ((with_reducible refine gate_callee (f := 21) rfl ?_); refine goesL_ (some 14) rfl rfl Try.func21 (by kernel_rfl) rfl #[.int .i64 a0, .int .i64 a1] rfl (by (try simp only [List.map_toArray, List.map_cons, List.map_nil]); first | done | rfl | (simp only [List.length_drop, List.length_take]; rfl)) ?_; (with_reducible refine (oakumref05_Right.calls a0 a1 true _ A4.out).mono ?_); rintro e w' ⟨rfl, ⟨nd, rfl⟩⟩; refine ⟨_, rfl, ?_⟩))
    (try simp only [Act.put, List.setIfInBounds_toArray, List.set_cons_zero, List.set_cons_succ])
    go_cut [39] (fun v39 wc => ∃ (kq : Nat) (x39_5 : Bool), v39 = .bool x39_5 ∧ Aside0 (oakumref05_Split.j0 kq a1 x39_5 a2_0 a2_1 = some (r1, r2)) ∧ Aside0 (kq ≤ k) ∧ Aside0 (wc.heap[gb123]? = some (.cells #[.int .i64 a2_0, .int .i64 a2_1] 25 (0, 0))) ∧ Aside0 (Below w.heap.size w wc))
    case first =>
      have H := HC6.out
      clear HC6
      by_cases c8 : a2_0 < 0
      · rw [if_pos c8] at H
        have c8b0 : decide (a2_0 < 0) = true := decide_eq_true c8
        clear c8
        (first | rw [c8b0] | (simp only [i64_w, i32_w]; rw [c8b0]) | skip)
        have H' := Aside0.mk H
        clear H
        have hcz9_0 : w7.cell? ⟨gb123, 0, none⟩ = some (.int .i64 a2_0) := (blk_cell BK123.out 0).trans rfl
        have hcz9_1 : w7.cell? ⟨gb123, 1, none⟩ = some (.int .i64 a2_1) := (blk_cell BK123.out 1).trans rfl
        have hfz9_0 := blk_frozen BK123.out 0
        have hfz9_1 := blk_frozen BK123.out 1
        go_wp2
        go_meet
        case rel => exact ⟨_, (true), (by first | rfl | (simp; done) | (simp [*]; done)), H', ⟨by first | omega | exact Nat.le_refl _⟩, ⟨by (with_reducible repeat (first | refine blk_drewN ?_ _ | refine blk_drew ?_ | refine blk_alloc ?_ _)); exact BK123.out⟩, ⟨by repeat (first | (with_reducible first | exact HB.out | apply below_alloc | apply pw_below_drewN | apply below_drew1 | refine below_set ?_ GE123.out) | exact HB.out)⟩⟩
      · rw [if_neg c8] at H
        have c8b0 : decide (a2_0 < 0) = false := decide_eq_false c8
        clear c8
        (first | rw [c8b0] | (simp only [i64_w, i32_w]; rw [c8b0]) | skip)
        by_cases c10 : a2_1 < 0
        · rw [if_pos c10] at H
          have c10b0 : decide (a2_1 < 0) = true := decide_eq_true c10
          clear c10
          have H' := Aside0.mk H
          clear H
          have hcz11_0 : w7.cell? ⟨gb123, 0, none⟩ = some (.int .i64 a2_0) := (blk_cell BK123.out 0).trans rfl
          have hcz11_1 : w7.cell? ⟨gb123, 1, none⟩ = some (.int .i64 a2_1) := (blk_cell BK123.out 1).trans rfl
          have hfz11_0 := blk_frozen BK123.out 0
          have hfz11_1 := blk_frozen BK123.out 1
          go_wp2
          go_meet
          case rel => exact ⟨_, (true), (by first | rfl | (simp; done) | (simp [*]; done)), H', ⟨by first | omega | exact Nat.le_refl _⟩, ⟨by (with_reducible repeat (first | refine blk_drewN ?_ _ | refine blk_drew ?_ | refine blk_alloc ?_ _)); exact BK123.out⟩, ⟨by repeat (first | (with_reducible first | exact HB.out | apply below_alloc | apply pw_below_drewN | apply below_drew1 | refine below_set ?_ GE123.out) | exact HB.out)⟩⟩
        · rw [if_neg c10] at H
          have c10b0 : decide (a2_1 < 0) = false := decide_eq_false c10
          clear c10
          by_cases c12 : a2_0 > a0
          · rw [if_pos c12] at H
            have c12b0 : decide (a0 < a2_0) = true := decide_eq_true c12
            clear c12
            have H' := Aside0.mk H
            clear H
            have hcz13_0 : w7.cell? ⟨gb123, 0, none⟩ = some (.int .i64 a2_0) := (blk_cell BK123.out 0).trans rfl
            have hcz13_1 : w7.cell? ⟨gb123, 1, none⟩ = some (.int .i64 a2_1) := (blk_cell BK123.out 1).trans rfl
            have hfz13_0 := blk_frozen BK123.out 0
            have hfz13_1 := blk_frozen BK123.out 1
            go_wp2
            go_meet
            case rel => exact ⟨_, (true), (by first | rfl | (simp; done) | (simp [*]; done)), H', ⟨by first | omega | exact Nat.le_refl _⟩, ⟨by (with_reducible repeat (first | refine blk_drewN ?_ _ | refine blk_drew ?_ | refine blk_alloc ?_ _)); exact BK123.out⟩, ⟨by repeat (first | (with_reducible first | exact HB.out | apply below_alloc | apply pw_below_drewN | apply below_drew1 | refine below_set ?_ GE123.out) | exact HB.out)⟩⟩
          · rw [if_neg c12] at H
            have c12b0 : decide (a0 < a2_0) = false := decide_eq_false c12
            clear c12
            have H' := Aside0.mk H
            clear H
            have hcz14_0 : w7.cell? ⟨gb123, 0, none⟩ = some (.int .i64 a2_0) := (blk_cell BK123.out 0).trans rfl
            have hcz14_1 : w7.cell? ⟨gb123, 1, none⟩ = some (.int .i64 a2_1) := (blk_cell BK123.out 1).trans rfl
            have hfz14_0 := blk_frozen BK123.out 0
            have hfz14_1 := blk_frozen BK123.out 1
            go_wp2
            go_meet
            case rel => exact ⟨_, (decide (a2_1 > (wrap64 (a0 - a2_0)))), (by first | rfl | (simp; done) | (simp [*]; done)), H', ⟨by first | omega | exact Nat.le_refl _⟩, ⟨by (with_reducible repeat (first | refine blk_drewN ?_ _ | refine blk_drew ?_ | refine blk_alloc ?_ _)); exact BK123.out⟩, ⟨by repeat (first | (with_reducible first | exact HB.out | apply below_alloc | apply pw_below_drewN | apply below_drew1 | refine below_set ?_ GE123.out) | exact HB.out)⟩⟩
    case rest =>
      clear HC6
      try clear c1
      try clear c2
      try clear p2
      try clear c5
      try clear p6
      try clear c8
      try clear c8b0
      try clear c10
      try clear c10b0
      try clear c12
      try clear c12b0
      try clear hcz11_0
      try clear hcz11_1
      try clear hcz13_0
      try clear hcz13_1
      try clear hcz14_0
      try clear hcz14_1
      try clear hcz9_0
      try clear hcz9_1
      try clear hfz11_0
      try clear hfz11_1
      try clear hfz13_0
      try clear hfz13_1
      try clear hfz14_0
      try clear hfz14_1
      try clear hfz9_0
      try clear hfz9_1
      obtain ⟨kq, x39_5, rfl, HA, HJ5, BK123, HB⟩ := hcut
      cases kq with
      | zero => exact absurd HA.out (by simp [oakumref05_Split.j0])
      | succ kj5 =>
        have H := HA.out
        clear HA
        simp only [oakumref05_Split.j0] at H
        by_cases c15 : x39_5 = true
        · subst c15
          have H1 : (some (([] : List (S94)), 2)) = some (r1, r2) := by rw [if_pos rfl] at H; exact H
          clear H
          have H := H1
          clear H1
          simp only [Option.some.injEq, Prod.mk.injEq] at H
          obtain ⟨rfl, rfl⟩ := H
          go_wp2
          go_ret2
          exact ⟨_, by first | rfl | (simp [errW_none, errW_some] <;> rfl) | (simp [*, errW_none, errW_some] <;> rfl), by first | exact Kd.R_nil _ _ _ _ _ | exact Kd.N_nil _ _ _ _ _ | exact Kd.V_nil _ _ _ _ _ | exact Kd.Q_nil _ _ _ _ _ | exact Kd.S_nil _ _ _ _ _, by repeat (first | (with_reducible first | exact HB.out | apply below_alloc | apply pw_below_drewN | apply below_drew1 | refine below_set ?_ GE123.out) | exact HB.out)⟩
        · replace c15 := Bool.eq_false_iff.mpr c15
          subst c15
          have H1 : (oakumref05_Split.l0 kj5 a1 ([] : List (S94)) 0 a2_0 a2_1) = some (r1, r2) := by rw [if_neg (show ¬ (false = true) by decide)] at H; exact H
          clear H
          have H := H1
          clear H1
          have H' := Aside0.mk H
          clear H
          go_wp2
          go_loopg [9, 10] kj5 (fun kq v9 v10 w' => ∃ (x9_2 : List (S94)) (x10_2 : Int), v10 = .int .i64 x10_2 ∧ Aside0 (oakumref05_Split.l0 kq a1 x9_2 x10_2 a2_0 a2_1 = some (r1, r2)) ∧ Aside0 (kq ≤ kj5) ∧ Aside0 (Kd.R k94 94 w' w.heap.size (fun _ => True) v9 x9_2) ∧ Aside0 (w'.heap[gb123]? = some (.cells #[.int .i64 a2_0, .int .i64 a2_1] 25 (0, 0))) ∧ Aside0 (Below w.heap.size w w'))
          case atStart => exact ⟨(([] : List (S94))), (0), (by first | rfl | (simp; done) | (simp [*]; done)), H', ⟨Nat.le_refl _⟩, ⟨by first | exact Kd.R_nil _ _ _ _ _ | exact Kd.N_nil _ _ _ _ _ | exact Kd.V_nil _ _ _ _ _ | exact Kd.Q_nil _ _ _ _ _ | exact Kd.S_nil _ _ _ _ _⟩, ⟨by (with_reducible repeat (first | refine blk_drewN ?_ _ | refine blk_drew ?_ | refine blk_alloc ?_ _)); exact BK123.out⟩, ⟨by repeat (first | (with_reducible first | exact HB.out | apply below_alloc | apply pw_below_drewN | apply below_drew1 | refine below_set ?_ GE123.out) | exact HB.out)⟩⟩
          case round =>
            clear H'
            try clear c1
            try clear c2
            try clear p2
            try clear c5
            try clear p6
            try clear c8
            try clear c8b0
            try clear c10
            try clear c10b0
            try clear c12
            try clear c12b0
            try clear c15
            try clear hcz11_0
            try clear hcz11_1
            try clear hcz13_0
            try clear hcz13_1
            try clear hcz14_0
            try clear hcz14_1
            try clear hcz9_0
            try clear hcz9_1
            try clear hfz11_0
            try clear hfz11_1
            try clear hfz13_0
            try clear hfz13_1
            try clear hfz14_0
            try clear hfz14_1
            try clear hfz9_0
            try clear hfz9_1
            try clear p2
            try clear p6
            obtain ⟨x9_2, x10_2, rfl, HA, HK2, HO_9, BK123, HB⟩ := hrel
            cases gk with
            | zero => exact absurd HA.out (by simp [oakumref05_Split.l0])
            | succ k2 =>
              have H := HA.out
              clear HA
              simp only [oakumref05_Split.l0] at H
              by_cases c16 : x10_2 < a2_1
              · rw [if_pos c16] at H
                have c16b0 : decide (x10_2 < a2_1) = true := decide_eq_true c16
                clear c16
                by_cases c17 : x10_2 > 0
                · rw [if_pos c17] at H
                  have c17b0 : decide (0 < x10_2) = true := decide_eq_true c17
                  clear c17
                  by_cases c18 : a1 = 0
                  · rw [if_pos c18] at H
                    exact absurd H (by simp)
                  · rw [if_neg c18] at H
                    have c18b0 : (a1 == 0) = false := beq_eq_false_iff_ne.mpr c18
                    have c18b1 : (a1 != 0) = true := bne_iff_ne.mpr c18
                    by_cases c19 : (Int.tmod (wrap64 (a2_0 + x10_2)) a1) = 0
                    · rw [if_pos c19] at H
                      have c19b0 : ((Int.tmod (wrap64 (a2_0 + x10_2)) a1) == 0) = true := beq_iff_eq.mpr c19
                      have c19b1 : ((Int.tmod (wrap64 (a2_0 + x10_2)) a1) != 0) = false := bne_eq_false_iff_eq.mpr c19
                      clear c19
                      by_cases c20 : x9_2.length < 5864062014805
                      · rw [if_pos c20] at H
                        have LMc20 := Aside0.mk c20
                        clear c20
                        obtain ⟨y125, hy125⟩ : ∃ y_ : List (S94), y_ = (x9_2 ++ [(⟨wrap64 (Int.tdiv (wrap64 (a2_0 + x10_2)) a1), Int.tmod (wrap64 (a2_0 + x10_2)) a1, 1⟩ : S94)]) := ⟨_, rfl⟩
                        replace H : (oakumref05_Split.l0 k2 a1 y125 (wrap64 (x10_2 + 1)) a2_0 a2_1) = some (r1, r2) := by first | (rw [hy125]; with_reducible exact H) | (have H2_ := (Option.bind_some _ _).symm.trans H; rw [hy125]; with_reducible exact H2_) | (have H2_ := (Option.bind_some _ _).symm.trans H; with_reducible exact H2_) | with_reducible exact H | (rw [hy125]; exact H) | exact H
                        have Ny125 := Aside0.mk hy125
                        clear hy125
                        have H' := Aside0.mk H
                        clear H
                        have hcz21_0 : wr.cell? ⟨gb123, 0, none⟩ = some (.int .i64 a2_0) := (blk_cell BK123.out 0).trans rfl
                        have hcz21_1 : wr.cell? ⟨gb123, 1, none⟩ = some (.int .i64 a2_1) := (blk_cell BK123.out 1).trans rfl
                        have hfz21_0 := blk_frozen BK123.out 0
                        have hfz21_1 := blk_frozen BK123.out 1
                        try go_wp2
                        have n0_ := Aside0.mk (Kd.R_drew HO_9.out)
                        have n1_ := Aside0.mk (blk_drew BK123.out)
                        have n2_ := Aside0.mk (below_drew1 HB.out)
                        clear HO_9
                        clear BK123
                        clear HB
                        have HO_9 := n0_
                        have BK123 := n1_
                        have HB := n2_
                        clear n0_ n1_ n2_
                        refine start_ (n := 11) (S := fun w' => True) (ds := []) #[false, false, false, false, false, false, false, false, false, false, false] (by kernel_rfl) rfl rfl trivial (fun hHeld => ?_); refine with_tabW oakumref05_Split.tab13 oakumref05_Split.bits13 (fun HT_ HW_ => ?_)
                        generalize wr.drew = w22 at HO_9 BK123 HB hHeld ⊢
                        refine pure_ (i := 0) (N := some 68) (v := ?_) (a' := ?_) #[true, false, false, false, false, false, false, false, false, false, false] rfl rfl (any_of HT_.out (by kernel_rfl)) (fun _ _ _ h => h) (Or.inl ⟨by rfl, ?_⟩) ?_ ?_
                        rotate_left
                        · intro w'
                          go_simp
                          with_reducible rfl
                        rotate_left
                        · simp only [Act.put, List.setIfInBounds_toArray, List.set_cons_zero, List.set_cons_succ, i64_w, i32_w]
                          rfl
                        refine pure_ (i := 1) (N := some 69) (v := ?_) (a' := ?_) #[true, true, false, false, false, false, false, false, false, false, false] rfl rfl (any_of HT_.out (by kernel_rfl)) (fun _ _ _ h => h) (Or.inl ⟨by rfl, ?_⟩) ?_ ?_
                        rotate_left
                        · intro w'
                          go_simp
                          with_reducible rfl
                        rotate_left
                        · simp only [Act.put, List.setIfInBounds_toArray, List.set_cons_zero, List.set_cons_succ, i64_w, i32_w]
                          rfl
                        refine pure_ (i := 2) (N := some 70) (v := ?_) (a' := ?_) #[true, true, true, false, false, false, false, false, false, false, false] rfl rfl (any_of HT_.out (by kernel_rfl)) (fun _ _ _ h => h) (Or.inl ⟨by rfl, ?_⟩) ?_ ?_
                        rotate_left
                        · intro w'
                          go_simp
                          with_reducible rfl
                        rotate_left
                        · simp only [Act.put, List.setIfInBounds_toArray, List.set_cons_zero, List.set_cons_succ, i64_w, i32_w]
                          rfl
                        refine pure_ (i := 3) (N := some 71) (v := ?_) (a' := ?_) #[true, true, true, true, false, false, false, false, false, false, false] rfl rfl (any_of HT_.out (by kernel_rfl)) (fun _ _ _ h => h) (Or.inl ⟨by rfl, ?_⟩) ?_ ?_
                        rotate_left
                        · intro w'
                          go_simp
                          with_reducible rfl
                        rotate_left
                        · simp only [Act.put, List.setIfInBounds_toArray, List.set_cons_zero, List.set_cons_succ, i64_w, i32_w]
                          rfl
                        refine pure_ (i := 4) (N := some 72) (v := ?_) (a' := ?_) #[true, true, true, true, true, false, false, false, false, false, false] rfl rfl (any_of HT_.out (by kernel_rfl)) (fun _ _ _ h => h) (Or.inl ⟨by rfl, ?_⟩) ?_ ?_
                        rotate_left
                        · intro w'
                          go_simp
                          with_reducible rfl
                        rotate_left
                        · simp only [Act.put, List.setIfInBounds_toArray, List.set_cons_zero, List.set_cons_succ, i64_w, i32_w]
                          rfl
                        refine pure_ (i := 5) (N := some 73) (v := ?_) (a' := ?_) #[true, true, true, true, true, true, false, false, false, false, false] rfl rfl (any_of HT_.out (by kernel_rfl)) (fun _ _ _ h => h) (Or.inl ⟨by rfl, ?_⟩) ?_ ?_
                        rotate_left
                        · intro w'
                          go_simp
                          with_reducible rfl
                        rotate_left
                        · simp only [Act.put, List.setIfInBounds_toArray, List.set_cons_zero, List.set_cons_succ, i64_w, i32_w]
                          rfl
                        refine pure_ (i := 6) (N := some 74) (v := ?_) (a' := ?_) #[true, true, true, true, true, true, true, false, false, false, false] rfl rfl (any_of HT_.out (by kernel_rfl)) (fun _ _ _ h => h) (Or.inl ⟨by rfl, ?_⟩) ?_ ?_
                        rotate_left
                        · intro w'
                          go_simp
                          with_reducible rfl
                        rotate_left
                        · simp only [Act.put, List.setIfInBounds_toArray, List.set_cons_zero, List.set_cons_succ, i64_w, i32_w]
                          rfl
                        refine pure_ (i := 7) (N := some 75) (v := ?_) (a' := ?_) #[true, true, true, true, true, true, true, true, false, false, false] rfl rfl (any_of HT_.out (by kernel_rfl)) (fun _ _ _ h => h) (Or.inl ⟨by rfl, ?_⟩) ?_ ?_
                        rotate_left
                        · intro w'
                          go_simp
                          with_reducible rfl
                        rotate_left
                        · simp only [Act.put, List.setIfInBounds_toArray, List.set_cons_zero, List.set_cons_succ, i64_w, i32_w]
                          rfl
                        refine one_ (i := 8) (N := some 76) #[true, true, true, true, true, true, true, true, true, false, false] rfl rfl (one_of HT_.out (by kernel_rfl)) (by decide) (fun K hK => ?_)
                        refine value_ (w1 := ?_) (v := ?_) (by rfl) rfl ?_ ?_
                        rotate_left 2
                        · go_simp
                          constructor
                          · rfl
                          · rfl
                        refine hK.out _ _ trivial (fun hHeld => ?_)
                        clear hK K
                        refine norm_ (a' := ?_) ?_ ?_
                        rotate_left
                        · show Act.put _ (some 76) _ = _
                          simp only [Act.put, List.setIfInBounds_toArray, List.set_cons_zero, List.set_cons_succ, i64_w, i32_w]
                          rfl
                        refine one_ (i := 9) (N := some 77) #[true, true, true, true, true, true, true, true, true, true, false] rfl rfl (one_of HT_.out (by kernel_rfl)) (by decide) (fun K hK => ?_)
                        refine Kd.R_append_step k94 (w0 := w) w.heap.size (by rfl) (.tmp 68) (.tmp 76) 34 94 (.agg #[(.int .i64 0), (.int .i64 0), (.int .i64 0)]) 24 rfl Try.underlying34 info94 rfl (by decide) (by omega) u9 x9_2 (⟨wrap64 (Int.tdiv (wrap64 (a2_0 + x10_2)) a1), Int.tmod (wrap64 (a2_0 + x10_2)) a1, 1⟩ : S94) [.int .i64 (wrap64 (Int.tdiv (wrap64 (a2_0 + x10_2)) a1)), .int .i64 (Int.tmod (wrap64 (a2_0 + x10_2)) a1), .int .i64 1] (fun _ => True) (fun _ => False) rfl rfl ?aP (fun _ hk => hk.elim) ?aF ?aO ?aB ?aS ?aL ?_
                        (case aP => exact k94_mkM _ _ _ (⟨wrap64 (Int.tdiv (wrap64 (a2_0 + x10_2)) a1), Int.tmod (wrap64 (a2_0 + x10_2)) a1, 1⟩ : S94))
                        (case aB => exact (by repeat (first | (with_reducible first | exact HB.out | apply below_alloc | apply pw_below_drewN | apply below_drew1 | refine below_set ?_ GE123.out) | exact HB.out)))
                        (case aF => exact (fun _ _ => trivial))
                        (case aO => exact (by (with_reducible repeat (first | apply Kd.R_alloc | apply Kd.R_drewN | apply Kd.R_drew)); exact HO_9.out))
                        (case aS => exact (below_size (by repeat (first | (with_reducible first | exact HB.out | apply below_alloc | apply pw_below_drewN | apply below_drew1 | refine below_set ?_ GE123.out) | exact HB.out))))
                        (case aL => have := LMc20.out; omega)
                        intro v126 w23 ho hb hg hat
                        rw [← Ny125.out] at ho
                        have n0_ := Aside0.mk (blk_grown (g := gb123) (o := .cells #[.int .i64 a2_0, .int .i64 a2_1] 25 (0, 0)) (by (with_reducible repeat (first | refine blk_drewN ?_ _ | refine blk_drew ?_ | refine blk_alloc ?_ _)); exact BK123.out) hg (Kd.R_ne HO_9.out BK123.out (by decide)))
                        have n1_ := Aside0.mk (hb)
                        have n2_ := Aside0.mk (ho)
                        clear BK123
                        clear HB
                        clear HO_9
                        have BK123 := n0_
                        have HB := n1_
                        have HO127 := n2_
                        clear n0_ n1_ n2_
                        clear ho hb hg hat
                        refine hK.out _ _ trivial (fun hHeld => ?_)
                        clear hK K
                        refine norm_ (a' := ?_) ?_ ?_
                        rotate_left
                        · show Act.put _ (some 77) _ = _
                          simp only [Act.put, List.setIfInBounds_toArray, List.set_cons_zero, List.set_cons_succ, i64_w, i32_w]
                          rfl
                        refine pure_ (i := 10) (N := some 9) (v := ?_) (a' := ?_) #[true, true, true, true, true, true, true, true, true, true, true] rfl rfl (any_of HT_.out (by kernel_rfl)) (fun _ _ _ h => h) (Or.inl ⟨by rfl, ?_⟩) ?_ ?_
                        rotate_left
                        · intro w'
                          go_simp
                          with_reducible rfl
                        rotate_left
                        · simp only [Act.put, List.setIfInBounds_toArray, List.set_cons_zero, List.set_cons_succ, i64_w, i32_w]
                          rfl
                        refine done_ (done_of HT_.out (by kernel_rfl)) ?_
                        try go_wp2
                        go_roundg k2
                        case measure => have := HJ5.out; have := HK2.out; omega
                        case rel => exact ⟨(y125), (wrap64 (x10_2 + 1)), (by first | rfl | (simp; done) | (simp [*]; done)), H', ⟨by have := HJ5.out; have := HK2.out; omega⟩, ⟨by (with_reducible repeat (first | apply Kd.R_alloc | apply Kd.R_drewN | apply Kd.R_drew)); exact HO127.out⟩, ⟨by (with_reducible repeat (first | refine blk_drewN ?_ _ | refine blk_drew ?_ | refine blk_alloc ?_ _)); exact BK123.out⟩, ⟨by repeat (first | (with_reducible first | exact HB.out | apply below_alloc | apply pw_below_drewN | apply below_drew1 | refine below_set ?_ GE123.out) | exact HB.out)⟩⟩
                      · rw [if_neg c20] at H
                        exact absurd H (by simp)
                    · rw [if_neg c19] at H
                      have c19b0 : ((Int.tmod (wrap64 (a2_0 + x10_2)) a1) == 0) = false := beq_eq_false_iff_ne.mpr c19
                      have c19b1 : ((Int.tmod (wrap64 (a2_0 + x10_2)) a1) != 0) = true := bne_iff_ne.mpr c19
                      obtain ⟨ji24, hji24⟩ : ∃ j_ : Int, (wrap64 ((x9_2.length : Int) - 1)) = j_ := ⟨_, rfl⟩
                      replace H : (if 0 ≤ (ji24) then (if (ji24) < (x9_2.length : Int) then (oakumref05_Split.l0 k2 a1 (x9_2.set ((ji24) : Int).toNat (⟨(rd_T94 x9_2 (ji24)).f0, (rd_T94 x9_2 (ji24)).f1, wrap64 (((rd_T94 x9_2 (ji24)).f2) + 1)⟩ : S94)) (wrap64 (x10_2 + 1)) a2_0 a2_1) else (none)) else (none)) = some (r1, r2) := by first | (rw [hji24] at H; exact H) | (simp only [hji24] at H ⊢; exact H)
                      have hji24w : (IntKind.i64.wrap ((x9_2.length : Int) - 1)) = ji24 := (i64_w _).trans hji24
                      by_cases c25 : 0 ≤ (ji24)
                      · rw [if_pos c25] at H
                        have c25b0 : decide (0 ≤ (ji24)) = true := decide_eq_true c25
                        clear c25
                        by_cases c26 : (ji24) < (x9_2.length : Int)
                        · rw [if_pos c26] at H
                          have c26b0 : decide ((ji24) < (x9_2.length : Int)) = true := decide_eq_true c26
                          clear c26
                          obtain ⟨y129, hy129⟩ : ∃ y_ : List (S94), y_ = (x9_2.set ((ji24) : Int).toNat (⟨(rd_T94 x9_2 (ji24)).f0, (rd_T94 x9_2 (ji24)).f1, wrap64 (((rd_T94 x9_2 (ji24)).f2) + 1)⟩ : S94)) := ⟨_, rfl⟩
                          replace H : (oakumref05_Split.l0 k2 a1 y129 (wrap64 (x10_2 + 1)) a2_0 a2_1) = some (r1, r2) := by first | (rw [hy129]; with_reducible exact H) | (have H2_ := (Option.bind_some _ _).symm.trans H; rw [hy129]; with_reducible exact H2_) | (have H2_ := (Option.bind_some _ _).symm.trans H; with_reducible exact H2_) | with_reducible exact H | (rw [hy129]; exact H) | exact H
                          have Ny129 := Aside0.mk hy129
                          clear hy129
                          have H' := Aside0.mk H
                          clear H
                          have hcz28_0 : wr.cell? ⟨gb123, 0, none⟩ = some (.int .i64 a2_0) := (blk_cell BK123.out 0).trans rfl
                          have hcz28_1 : wr.cell? ⟨gb123, 1, none⟩ = some (.int .i64 a2_1) := (blk_cell BK123.out 1).trans rfl
                          have hfz28_0 := blk_frozen BK123.out 0
                          have hfz28_1 := blk_frozen BK123.out 1
                          obtain ⟨Ao29, co29, eo29⟩ := Kd.R_slice HO_9.out
                          subst eo29
                          have p128 : 0 ≤ ((ji24) : Int) := of_decide_eq_true (by first | (with_reducible assumption) | assumption)
                          have q128 : (ji24) < (x9_2.length : Int) := of_decide_eq_true (by first | (with_reducible assumption) | assumption)
                          obtain ⟨ad128, e128, hx128_0, hx128_1, hx128_2⟩ := at_T94 (Kd.R_reads' HO_9.out).2.2 (ji24) p128 q128
                          cases e128
                          replace p128 := eq_true p128
                          replace q128 := eq_true q128
                          have p27 : 0 ≤ ((ji24) : Int) := of_decide_eq_true (by first | (with_reducible assumption) | assumption)
                          have q27 : ((ji24) : Int) < ((x9_2.length : Int) : Int) := of_decide_eq_true (by first | (with_reducible assumption) | assumption)
                          obtain ⟨go27, co27, eo27, gb27, gl27, cl27, HG27⟩ := Kd.R_form HO_9.out (by omega)
                          (first | cases eo27 | (injection eo27 with ea_ en_ ec_; (first | subst ea_ | (injection ea_ with ea_; subst ea_)); subst ec_; clear en_))
                          have GB27 := Aside0.mk gb27
                          have GG27 := Aside0.mk HG27
                          clear gb27 gl27 HG27
                          (first | simp only [add_plain] at hx128_0 | skip)
                          (first | simp only [add_plain] at hx128_1 | skip)
                          (first | simp only [add_plain] at hx128_2 | skip)
                          obtain ⟨ce27, hcl27, hM27, hcc27, hfr27⟩ := Kd.R_elem HO_9.out z94 ((ji24) : Int) p27 q27
                          obtain rfl := k94_openM hM27
                          have hx27_0 : wr.cell? ⟨go27, ((ji24) : Int).toNat * 3, none⟩ = some (.int .i64 ((rd_T94 x9_2 (ji24)).f0)) := hcc27 0 _ rfl
                          have hx27_1 : wr.cell? ⟨go27, ((ji24) : Int).toNat * 3 + 1, none⟩ = some (.int .i64 ((rd_T94 x9_2 (ji24)).f1)) := hcc27 1 _ rfl
                          have hx27_2 : wr.cell? ⟨go27, ((ji24) : Int).toNat * 3 + 2, none⟩ = some (.int .i64 ((rd_T94 x9_2 (ji24)).f2)) := hcc27 2 _ rfl
                          have hf27_0 : wr.frozen? ⟨go27, ((ji24) : Int).toNat * 3, none⟩ = false := hfr27 0
                          have hf27_1 : wr.frozen? ⟨go27, ((ji24) : Int).toNat * 3 + 1, none⟩ = false := hfr27 1
                          have hf27_2 : wr.frozen? ⟨go27, ((ji24) : Int).toNat * 3 + 2, none⟩ = false := hfr27 2
                          clear hcl27 hcc27 hfr27 hM27
                          replace p27 := eq_true p27
                          replace q27 := eq_true q27
                          have HX30 := Aside0.mk (show Kd.R k94 94 wr w.heap.size (fun _ => True) (.slice (some ⟨go27, 0, none⟩) x9_2.length co29) x9_2 from (by (with_reducible repeat (first | apply Kd.R_alloc | apply Kd.R_drewN | apply Kd.R_drew)); exact HO_9.out))
                          obtain ⟨ce30, hcl30, hM30, hcc30, hfr30⟩ := Kd.R_elem HX30.out z94 ((ji24) : Int) (of_decide_eq_true (by first | (with_reducible assumption) | assumption)) (by have h_ : ((ji24) : Int) < ((x9_2.length : Int) : Int) := of_decide_eq_true (by first | (with_reducible assumption) | assumption); first | exact h_ | (have e_ := (Kd.R_reads' HO_9.out).1; omega) | simpa using h_)
                          obtain rfl := k94_openM hM30
                          have HP30 := Kd.R_seg HX30.out ((ji24) : Int) (of_decide_eq_true (by first | (with_reducible assumption) | assumption)) (by have h_ : ((ji24) : Int) < ((x9_2.length : Int) : Int) := of_decide_eq_true (by first | (with_reducible assumption) | assumption); first | exact h_ | (have e_ := (Kd.R_reads' HO_9.out).1; omega) | simpa using h_) (seg := [.int .i64 (wrap64 (((rd_T94 x9_2 (ji24)).f2) + 1))]) (j := 2) hcl30 hcc30 (show 3 ≤ 3 from by decide) (x' := (⟨(rd_T94 x9_2 (ji24)).f0, (rd_T94 x9_2 (ji24)).f1, wrap64 (((rd_T94 x9_2 (ji24)).f2) + 1)⟩ : S94)) (k94_mkM _ _ _ (⟨(rd_T94 x9_2 (ji24)).f0, (rd_T94 x9_2 (ji24)).f1, wrap64 (((rd_T94 x9_2 (ji24)).f2) + 1)⟩ : S94) ) (fun _ hk => hk)
                          have hx30_2 := hcc30 2 _ rfl
                          (try simp only [show (k94).sz = 3 from rfl, Nat.mul_one, Nat.add_zero] at hx30_2)
                          have hf30_2 := hfr30 2
                          (try simp only [show (k94).sz = 3 from rfl, Nat.mul_one, Nat.add_zero] at hf30_2)
                          clear hcl30 hcc30 hfr30 hM30
                          go_wp2_with (first | ((with_reducible refine gate_store (t := 3) (p := 67) rfl ?_); refine store_event (t := 3) (p := 67) (v := ?vo_w31) (w1 := (wr.setCell ⟨go27, ((ji24) : Int).toNat * 3 + 2, none⟩ (.int .i64 (wrap64 (((rd_T94 x9_2 (ji24)).f2) + 1))))) ?hg ?ho ?hn ?hr ?_; (case ho => rfl); (case hg => rfl); (case hn => rfl); (case hr => first | (go_simp; done) | (go_simp; rfl)); intro w31 hw; have hg : wr.grownBy w31 (some go27) := (by rw [hw]; exact HP30.2); have hp_ : Kd.R k94 94 w31 w.heap.size (fun _ => True) (.slice (some ⟨go27, 0, none⟩) x9_2.length co29) y129 := (by rw [hw, Ny129.out]; exact HP30.1); clear HP30; have n0_ := Aside0.mk (hp_); have n1_ := Aside0.mk (blk_grown (g := gb123) (o := .cells #[.int .i64 a2_0, .int .i64 a2_1] 25 (0, 0)) (by (with_reducible repeat (first | refine blk_drewN ?_ _ | refine blk_drew ?_ | refine blk_alloc ?_ _)); exact BK123.out) hg (Kd.R_ne HO_9.out BK123.out (by decide))); have n2_ := Aside0.mk ((by rw [hw]; exact below_set (HB.out) GB27.out : Below w.heap.size w w31)); clear HO_9; clear BK123; clear HB; have HO_9 := n0_; have BK123 := n1_; have HB := n2_; clear n0_ n1_ n2_; clear hg hw hp_))
                          go_roundg k2
                          case measure => have := HJ5.out; have := HK2.out; omega
                          case rel => exact ⟨(y129), (wrap64 (x10_2 + 1)), (by first | rfl | (simp; done) | (simp [*]; done)), H', ⟨by have := HJ5.out; have := HK2.out; omega⟩, ⟨by (with_reducible repeat (first | apply Kd.R_alloc | apply Kd.R_drewN | apply Kd.R_drew)); exact HO_9.out⟩, ⟨by (with_reducible repeat (first | refine blk_drewN ?_ _ | refine blk_drew ?_ | refine blk_alloc ?_ _)); exact BK123.out⟩, ⟨by repeat (first | (with_reducible first | exact HB.out | apply below_alloc | apply pw_below_drewN | apply below_drew1 | refine below_set ?_ GE123.out) | exact HB.out)⟩⟩
                        · rw [if_neg c26] at H
                          exact absurd H (by simp)
                      · rw [if_neg c25] at H
                        exact absurd H (by simp)
                · rw [if_neg c17] at H
                  have c17b0 : decide (0 < x10_2) = false := decide_eq_false c17
                  clear c17
                  by_cases c32 : a1 = 0
                  · rw [if_pos c32] at H
                    exact absurd H (by simp)
                  · rw [if_neg c32] at H
                    have c32b0 : (a1 == 0) = false := beq_eq_false_iff_ne.mpr c32
                    have c32b1 : (a1 != 0) = true := bne_iff_ne.mpr c32
                    by_cases c33 : x9_2.length < 5864062014805
                    · rw [if_pos c33] at H
                      have LMc33 := Aside0.mk c33
                      clear c33
                      obtain ⟨y130, hy130⟩ : ∃ y_ : List (S94), y_ = (x9_2 ++ [(⟨wrap64 (Int.tdiv (wrap64 (a2_0 + x10_2)) a1), Int.tmod (wrap64 (a2_0 + x10_2)) a1, 1⟩ : S94)]) := ⟨_, rfl⟩
                      replace H : (oakumref05_Split.l0 k2 a1 y130 (wrap64 (x10_2 + 1)) a2_0 a2_1) = some (r1, r2) := by first | (rw [hy130]; with_reducible exact H) | (have H2_ := (Option.bind_some _ _).symm.trans H; rw [hy130]; with_reducible exact H2_) | (have H2_ := (Option.bind_some _ _).symm.trans H; with_reducible exact H2_) | with_reducible exact H | (rw [hy130]; exact H) | exact H
                      have Ny130 := Aside0.mk hy130
                      clear hy130
                      have H' := Aside0.mk H
                      clear H
                      have hcz34_0 : wr.cell? ⟨gb123, 0, none⟩ = some (.int .i64 a2_0) := (blk_cell BK123.out 0).trans rfl
                      have hcz34_1 : wr.cell? ⟨gb123, 1, none⟩ = some (.int .i64 a2_1) := (blk_cell BK123.out 1).trans rfl
                      have hfz34_0 := blk_frozen BK123.out 0
                      have hfz34_1 := blk_frozen BK123.out 1
                      try go_wp2
                      have n0_ := Aside0.mk (Kd.R_drew HO_9.out)
                      have n1_ := Aside0.mk (blk_drew BK123.out)
                      have n2_ := Aside0.mk (below_drew1 HB.out)
                      clear HO_9
                      clear BK123
                      clear HB
                      have HO_9 := n0_
                      have BK123 := n1_
                      have HB := n2_
                      clear n0_ n1_ n2_
                      refine start_ (n := 11) (S := fun w' => True) (ds := []) #[false, false, false, false, false, false, false, false, false, false, false] (by kernel_rfl) rfl rfl trivial (fun hHeld => ?_); refine with_tabW oakumref05_Split.tab13 oakumref05_Split.bits13 (fun HT_ HW_ => ?_)
                      generalize wr.drew = w35 at HO_9 BK123 HB hHeld ⊢
                      refine pure_ (i := 0) (N := some 68) (v := ?_) (a' := ?_) #[true, false, false, false, false, false, false, false, false, false, false] rfl rfl (any_of HT_.out (by kernel_rfl)) (fun _ _ _ h => h) (Or.inl ⟨by rfl, ?_⟩) ?_ ?_
                      rotate_left
                      · intro w'
                        go_simp
                        with_reducible rfl
                      rotate_left
                      · simp only [Act.put, List.setIfInBounds_toArray, List.set_cons_zero, List.set_cons_succ, i64_w, i32_w]
                        rfl
                      refine pure_ (i := 1) (N := some 69) (v := ?_) (a' := ?_) #[true, true, false, false, false, false, false, false, false, false, false] rfl rfl (any_of HT_.out (by kernel_rfl)) (fun _ _ _ h => h) (Or.inl ⟨by rfl, ?_⟩) ?_ ?_
                      rotate_left
                      · intro w'
                        go_simp
                        with_reducible rfl
                      rotate_left
                      · simp only [Act.put, List.setIfInBounds_toArray, List.set_cons_zero, List.set_cons_succ, i64_w, i32_w]
                        rfl
                      refine pure_ (i := 2) (N := some 70) (v := ?_) (a' := ?_) #[true, true, true, false, false, false, false, false, false, false, false] rfl rfl (any_of HT_.out (by kernel_rfl)) (fun _ _ _ h => h) (Or.inl ⟨by rfl, ?_⟩) ?_ ?_
                      rotate_left
                      · intro w'
                        go_simp
                        with_reducible rfl
                      rotate_left
                      · simp only [Act.put, List.setIfInBounds_toArray, List.set_cons_zero, List.set_cons_succ, i64_w, i32_w]
                        rfl
                      refine pure_ (i := 3) (N := some 71) (v := ?_) (a' := ?_) #[true, true, true, true, false, false, false, false, false, false, false] rfl rfl (any_of HT_.out (by kernel_rfl)) (fun _ _ _ h => h) (Or.inl ⟨by rfl, ?_⟩) ?_ ?_
                      rotate_left
                      · intro w'
                        go_simp
                        with_reducible rfl
                      rotate_left
                      · simp only [Act.put, List.setIfInBounds_toArray, List.set_cons_zero, List.set_cons_succ, i64_w, i32_w]
                        rfl
                      refine pure_ (i := 4) (N := some 72) (v := ?_) (a' := ?_) #[true, true, true, true, true, false, false, false, false, false, false] rfl rfl (any_of HT_.out (by kernel_rfl)) (fun _ _ _ h => h) (Or.inl ⟨by rfl, ?_⟩) ?_ ?_
                      rotate_left
                      · intro w'
                        go_simp
                        with_reducible rfl
                      rotate_left
                      · simp only [Act.put, List.setIfInBounds_toArray, List.set_cons_zero, List.set_cons_succ, i64_w, i32_w]
                        rfl
                      refine pure_ (i := 5) (N := some 73) (v := ?_) (a' := ?_) #[true, true, true, true, true, true, false, false, false, false, false] rfl rfl (any_of HT_.out (by kernel_rfl)) (fun _ _ _ h => h) (Or.inl ⟨by rfl, ?_⟩) ?_ ?_
                      rotate_left
                      · intro w'
                        go_simp
                        with_reducible rfl
                      rotate_left
                      · simp only [Act.put, List.setIfInBounds_toArray, List.set_cons_zero, List.set_cons_succ, i64_w, i32_w]
                        rfl
                      refine pure_ (i := 6) (N := some 74) (v := ?_) (a' := ?_) #[true, true, true, true, true, true, true, false, false, false, false] rfl rfl (any_of HT_.out (by kernel_rfl)) (fun _ _ _ h => h) (Or.inl ⟨by rfl, ?_⟩) ?_ ?_
                      rotate_left
                      · intro w'
                        go_simp
                        with_reducible rfl
                      rotate_left
                      · simp only [Act.put, List.setIfInBounds_toArray, List.set_cons_zero, List.set_cons_succ, i64_w, i32_w]
                        rfl
                      refine pure_ (i := 7) (N := some 75) (v := ?_) (a' := ?_) #[true, true, true, true, true, true, true, true, false, false, false] rfl rfl (any_of HT_.out (by kernel_rfl)) (fun _ _ _ h => h) (Or.inl ⟨by rfl, ?_⟩) ?_ ?_
                      rotate_left
                      · intro w'
                        go_simp
                        with_reducible rfl
                      rotate_left
                      · simp only [Act.put, List.setIfInBounds_toArray, List.set_cons_zero, List.set_cons_succ, i64_w, i32_w]
                        rfl
                      refine one_ (i := 8) (N := some 76) #[true, true, true, true, true, true, true, true, true, false, false] rfl rfl (one_of HT_.out (by kernel_rfl)) (by decide) (fun K hK => ?_)
                      refine value_ (w1 := ?_) (v := ?_) (by rfl) rfl ?_ ?_
                      rotate_left 2
                      · go_simp
                        constructor
                        · rfl
                        · rfl
                      refine hK.out _ _ trivial (fun hHeld => ?_)
                      clear hK K
                      refine norm_ (a' := ?_) ?_ ?_
                      rotate_left
                      · show Act.put _ (some 76) _ = _
                        simp only [Act.put, List.setIfInBounds_toArray, List.set_cons_zero, List.set_cons_succ, i64_w, i32_w]
                        rfl
                      refine one_ (i := 9) (N := some 77) #[true, true, true, true, true, true, true, true, true, true, false] rfl rfl (one_of HT_.out (by kernel_rfl)) (by decide) (fun K hK => ?_)
                      refine Kd.R_append_step k94 (w0 := w) w.heap.size (by rfl) (.tmp 68) (.tmp 76) 34 94 (.agg #[(.int .i64 0), (.int .i64 0), (.int .i64 0)]) 24 rfl Try.underlying34 info94 rfl (by decide) (by omega) u9 x9_2 (⟨wrap64 (Int.tdiv (wrap64 (a2_0 + x10_2)) a1), Int.tmod (wrap64 (a2_0 + x10_2)) a1, 1⟩ : S94) [.int .i64 (wrap64 (Int.tdiv (wrap64 (a2_0 + x10_2)) a1)), .int .i64 (Int.tmod (wrap64 (a2_0 + x10_2)) a1), .int .i64 1] (fun _ => True) (fun _ => False) rfl rfl ?aP (fun _ hk => hk.elim) ?aF ?aO ?aB ?aS ?aL ?_
                      (case aP => exact k94_mkM _ _ _ (⟨wrap64 (Int.tdiv (wrap64 (a2_0 + x10_2)) a1), Int.tmod (wrap64 (a2_0 + x10_2)) a1, 1⟩ : S94))
                      (case aB => exact (by repeat (first | (with_reducible first | exact HB.out | apply below_alloc | apply pw_below_drewN | apply below_drew1 | refine below_set ?_ GE123.out) | exact HB.out)))
                      (case aF => exact (fun _ _ => trivial))
                      (case aO => exact (by (with_reducible repeat (first | apply Kd.R_alloc | apply Kd.R_drewN | apply Kd.R_drew)); exact HO_9.out))
                      (case aS => exact (below_size (by repeat (first | (with_reducible first | exact HB.out | apply below_alloc | apply pw_below_drewN | apply below_drew1 | refine below_set ?_ GE123.out) | exact HB.out))))
                      (case aL => have := LMc33.out; omega)
                      intro v131 w36 ho hb hg hat
                      rw [← Ny130.out] at ho
                      have n0_ := Aside0.mk (blk_grown (g := gb123) (o := .cells #[.int .i64 a2_0, .int .i64 a2_1] 25 (0, 0)) (by (with_reducible repeat (first | refine blk_drewN ?_ _ | refine blk_drew ?_ | refine blk_alloc ?_ _)); exact BK123.out) hg (Kd.R_ne HO_9.out BK123.out (by decide)))
                      have n1_ := Aside0.mk (hb)
                      have n2_ := Aside0.mk (ho)
                      clear BK123
                      clear HB
                      clear HO_9
                      have BK123 := n0_
                      have HB := n1_
                      have HO132 := n2_
                      clear n0_ n1_ n2_
                      clear ho hb hg hat
                      refine hK.out _ _ trivial (fun hHeld => ?_)
                      clear hK K
                      refine norm_ (a' := ?_) ?_ ?_
                      rotate_left
                      · show Act.put _ (some 77) _ = _
                        simp only [Act.put, List.setIfInBounds_toArray, List.set_cons_zero, List.set_cons_succ, i64_w, i32_w]
                        rfl
                      refine pure_ (i := 10) (N := some 9) (v := ?_) (a' := ?_) #[true, true, true, true, true, true, true, true, true, true, true] rfl rfl (any_of HT_.out (by kernel_rfl)) (fun _ _ _ h => h) (Or.inl ⟨by rfl, ?_⟩) ?_ ?_
                      rotate_left
                      · intro w'
                        go_simp
                        with_reducible rfl
                      rotate_left
                      · simp only [Act.put, List.setIfInBounds_toArray, List.set_cons_zero, List.set_cons_succ, i64_w, i32_w]
                        rfl
                      refine done_ (done_of HT_.out (by kernel_rfl)) ?_
                      try go_wp2
                      go_roundg k2
                      case measure => have := HJ5.out; have := HK2.out; omega
                      case rel => exact ⟨(y130), (wrap64 (x10_2 + 1)), (by first | rfl | (simp; done) | (simp [*]; done)), H', ⟨by have := HJ5.out; have := HK2.out; omega⟩, ⟨by (with_reducible repeat (first | apply Kd.R_alloc | apply Kd.R_drewN | apply Kd.R_drew)); exact HO132.out⟩, ⟨by (with_reducible repeat (first | refine blk_drewN ?_ _ | refine blk_drew ?_ | refine blk_alloc ?_ _)); exact BK123.out⟩, ⟨by repeat (first | (with_reducible first | exact HB.out | apply below_alloc | apply pw_below_drewN | apply below_drew1 | refine below_set ?_ GE123.out) | exact HB.out)⟩⟩
                    · rw [if_neg c33] at H
                      exact absurd H (by simp)
              · rw [if_neg c16] at H
                have c16b0 : decide (x10_2 < a2_1) = false := decide_eq_false c16
                clear c16
                simp only [Option.some.injEq, Prod.mk.injEq] at H
                obtain ⟨rfl, rfl⟩ := H
                have hcz37_0 : wr.cell? ⟨gb123, 0, none⟩ = some (.int .i64 a2_0) := (blk_cell BK123.out 0).trans rfl
                have hcz37_1 : wr.cell? ⟨gb123, 1, none⟩ = some (.int .i64 a2_1) := (blk_cell BK123.out 1).trans rfl
                have hfz37_0 := blk_frozen BK123.out 0
                have hfz37_1 := blk_frozen BK123.out 1
                go_wp2
                go_ret2
                exact ⟨_, by first | rfl | (simp [errW_none, errW_some] <;> rfl) | (simp [*, errW_none, errW_some] <;> rfl), by (with_reducible repeat (first | apply Kd.R_alloc | apply Kd.R_drewN | apply Kd.R_drew)); exact HO_9.out, by repeat (first | (with_reducible first | exact HB.out | apply below_alloc | apply pw_below_drewN | apply below_drew1 | refine below_set ?_ GE123.out) | exact HB.out)⟩
  · replace c5 := Bool.eq_false_iff.mpr c5
    subst c5
    have H1 : (some (([] : List (S94)), 1)) = some (r1, r2) := by rw [if_neg (show ¬ (false = true) by decide)] at H; exact H
    clear H
    have H := H1
    clear H1
    simp only [Option.some.injEq, Prod.mk.injEq] at H
    obtain ⟨rfl, rfl⟩ := H
    go_enter Try.func18, Try.ntmps18
    go_wp2_with (first | ((with_reducible refine gate_dst (N := 5) rfl ?_); refine box_event ?hg (N := 5) ?hd (cs := #[.int .i64 a2_0, .int .i64 a2_1]) (t := 25) ?hr ?_; (case hd => rfl); (case hg => rfl); (case hr => first | (go_simp; done) | (go_simp; rfl)); intro gb123 hg w38 hbox hb; have n0_ := Aside0.mk (below_step (by repeat (first | (with_reducible first | exact HB.out | apply below_alloc | apply pw_below_drewN | apply below_drew1) | exact HB.out)) hb); have n1_ := Aside0.mk (hbox); have n2_ := Aside0.mk ((by rw [hg]; exact (below_size (by repeat (first | (with_reducible first | exact HB.out | apply below_alloc | apply pw_below_drewN | apply below_drew1) | exact HB.out))) : w.heap.size ≤ gb123)); have n3_ := Aside0.mk ((by rw [hg]; exact (below_size (by repeat (first | (with_reducible first | exact HB.out | apply below_alloc | apply pw_below_drewN | apply below_drew1) | exact HB.out))) : w.heap.size ≤ gb123)); clear HB; have HB := n0_; have BK123 := n1_; have GW123 := n2_; have GE123 := n3_; clear n0_ n1_ n2_ n3_; clear hb hbox hg) | ((with_reducible refine gate_callee (f := 21) rfl ?_); refine goesL_ (some 14) rfl rfl Try.func21 (by kernel_rfl) rfl #[.int .i64 a0, .int .i64 a1] rfl (by (try simp only [List.map_toArray, List.map_cons, List.map_nil]); first | done | rfl | (simp only [List.length_drop, List.length_take]; rfl)) ?_; (with_reducible refine (oakumref05_Right.calls a0 a1 false _ A4.out).mono ?_); rintro e w' ⟨rfl, ⟨nd, rfl⟩⟩; refine ⟨_, rfl, ?_⟩))
    go_ret2
    exact ⟨_, by first | rfl | (simp [errW_none, errW_some] <;> rfl) | (simp [*, errW_none, errW_some] <;> rfl), by first | exact Kd.R_nil _ _ _ _ _ | exact Kd.N_nil _ _ _ _ _ | exact Kd.V_nil _ _ _ _ _ | exact Kd.Q_nil _ _ _ _ _ | exact Kd.S_nil _ _ _ _ _, by repeat (first | (with_reducible first | exact HB.out | apply below_alloc | apply pw_below_drewN | apply below_drew1 | refine below_set ?_ GE123.out) | exact HB.out)⟩

end Go.Proofs.Ytfkbcldeohblpaa.PGeomSpans
