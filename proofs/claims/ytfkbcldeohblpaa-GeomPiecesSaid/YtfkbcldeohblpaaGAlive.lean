/- Contracts of functions 14, laid by wip/tools (ownprint.py, sections.py). -/
import Derived.Test.YtfkbcldeohblpaaPGeomSpansx
import Derived.Test.YtfkbcldeohblpaaGSplit
namespace Go.Proofs.Ytfkbcldeohblpaa.PGeomSpans
open Go.RowKit Go.Proofs.YtfkbcldeohblpaaW.PrintWords Go.Proofs.YtfkbcldeohblpaaW.PrintLast Go.Proofs.YtfkbcldeohblpaaW.PrintMore
attribute [local go_sem] max2_int min2_int max_two min_two max_three min_three max_four min_four
set_option linter.unusedVariables false
set_option linter.unusedSimpArgs false

theorem eqA25 (d : Nat) (w : World) (x0 y0 : Int) (x1 y1 : Int) :
    (Op.equalIn (d + 2) 25 (.agg #[.int .i64 x0, .int .i64 x1]) (.agg #[.int .i64 y0, .int .i64 y1])).run Try.prog w = .ok (x0 == y0 && (x1 == y1)) w := by
  refine eqA_of Try.underlying25 (by kernel_rfl) ?_
  refine eqf_cons (by rfl) (by go_simp; rfl) (by go_simp; rfl) (by go_simp) ?_
  exact eqf_last (by rfl) (by go_simp; rfl) (by go_simp; rfl) (by go_simp)

theorem eqA43 (d : Nat) (w : World) (x0 y0 : Int) (x1 y1 : Int) (x2 y2 : Int) :
    (Op.equalIn (d + 2) 43 (.agg #[.int .i64 x0, .int .i64 x1, .int .i64 x2]) (.agg #[.int .i64 y0, .int .i64 y1, .int .i64 y2])).run Try.prog w = .ok (x0 == y0 && (x1 == y1 && (x2 == y2))) w := by
  refine eqA_of Try.underlying43 (by kernel_rfl) ?_
  refine eqf_cons (by rfl) (by go_simp; rfl) (by go_simp; rfl) (by go_simp) ?_
  refine eqf_cons (by rfl) (by go_simp; rfl) (by go_simp; rfl) (by go_simp) ?_
  exact eqf_last (by rfl) (by go_simp; rfl) (by go_simp; rfl) (by go_simp)

attribute [local go_sem high] eqA43
/-! ### oakumlaw05_alive: function 14 -/
def oakumlaw05_alive.f  : Option (Bool) := (geom_Geom_Split.f 10 4 3 6).bind fun bt116 => ((geom_Geom_Span.f 10 4 2).bind fun bt120 => ((geom_Geom_Size.f 10 4 14).bind fun bt124 => ((geom_Geom_Room.f 10 4 58).bind fun bt126 => (if bt116.2 = 0 then (if (bt116.1.length : Int) = 3 then (if 1 < (bt116.1.length : Int) then (if (((rd_T43 bt116.1 1).f0) == 1 && (((rd_T43 bt116.1 1).f1) == 0 && (((rd_T43 bt116.1 1).f2) == 4))) = true then (if bt120.2.2 = 0 then (if bt120.2.1 = 2 then (if bt124.1 = 59 then (if bt124.2 = 0 then (if bt126.1 = 13 then (if bt126.2 = 0 then ((geom_Geom_Chunks.f 10 4).bind fun t129 => (some (t129 == 3))) else (some false)) else (some false)) else (some false)) else (some false)) else (some false)) else (some false)) else (some false)) else (none)) else (some false)) else (some false)))))
set_option maxHeartbeats 8000000 in
set_option maxRecDepth 100000 in
theorem oakumlaw05_alive.calls_t  (r : Bool) (w : World) (hrt : Aside0 (r = true)) (h : oakumlaw05_alive.f  = some r) :
    Calls Try.prog 14 #[] w fun e w' => e = .returned (.bool r) ∧ Below w.heap.size w w' := by
  have hu23 := Try.underlying23
  have hu25 := Try.underlying25
  have hu43 := Try.underlying43
  have HB := Aside0.mk (Below.refl w.heap.size w)
  have H : ((geom_Geom_Split.f 10 4 3 6).bind fun bt116 => ((geom_Geom_Span.f 10 4 2).bind fun bt120 => ((geom_Geom_Size.f 10 4 14).bind fun bt124 => ((geom_Geom_Room.f 10 4 58).bind fun bt126 => (if bt116.2 = 0 then (if (bt116.1.length : Int) = 3 then (if 1 < (bt116.1.length : Int) then (if (((rd_T43 bt116.1 1).f0) == 1 && (((rd_T43 bt116.1 1).f1) == 0 && (((rd_T43 bt116.1 1).f2) == 4))) = true then (if bt120.2.2 = 0 then (if bt120.2.1 = 2 then (if bt124.1 = 59 then (if bt124.2 = 0 then (if bt126.1 = 13 then (if bt126.2 = 0 then ((geom_Geom_Chunks.f 10 4).bind fun t129 => (some (t129 == 3))) else (some false)) else (some false)) else (some false)) else (some false)) else (some false)) else (some false)) else (some false)) else (none)) else (some false)) else (some false)))))) = some r := h
  clear h
  replace H := Option.bind_eq_some_iff.mp H
  obtain ⟨⟨t116, t119⟩, A10, H⟩ := H
  replace H : ((geom_Geom_Span.f 10 4 2).bind fun bt120 => ((geom_Geom_Size.f 10 4 14).bind fun bt124 => ((geom_Geom_Room.f 10 4 58).bind fun bt126 => (if t119 = 0 then (if (t116.length : Int) = 3 then (if 1 < (t116.length : Int) then (if (((rd_T43 t116 1).f0) == 1 && (((rd_T43 t116 1).f1) == 0 && (((rd_T43 t116 1).f2) == 4))) = true then (if bt120.2.2 = 0 then (if bt120.2.1 = 2 then (if bt124.1 = 59 then (if bt124.2 = 0 then (if bt126.1 = 13 then (if bt126.2 = 0 then ((geom_Geom_Chunks.f 10 4).bind fun t129 => (some (t129 == 3))) else (some false)) else (some false)) else (some false)) else (some false)) else (some false)) else (some false)) else (some false)) else (none)) else (some false)) else (some false))))) = some r := H
  have A1 := Aside0.mk A10
  clear A10
  replace H := Option.bind_eq_some_iff.mp H
  obtain ⟨⟨t120, t121, t122⟩, A20, H⟩ := H
  replace H : ((geom_Geom_Size.f 10 4 14).bind fun bt124 => ((geom_Geom_Room.f 10 4 58).bind fun bt126 => (if t119 = 0 then (if (t116.length : Int) = 3 then (if 1 < (t116.length : Int) then (if (((rd_T43 t116 1).f0) == 1 && (((rd_T43 t116 1).f1) == 0 && (((rd_T43 t116 1).f2) == 4))) = true then (if t122 = 0 then (if t121 = 2 then (if bt124.1 = 59 then (if bt124.2 = 0 then (if bt126.1 = 13 then (if bt126.2 = 0 then ((geom_Geom_Chunks.f 10 4).bind fun t129 => (some (t129 == 3))) else (some false)) else (some false)) else (some false)) else (some false)) else (some false)) else (some false)) else (some false)) else (none)) else (some false)) else (some false)))) = some r := H
  have A2 := Aside0.mk A20
  clear A20
  replace H := Option.bind_eq_some_iff.mp H
  obtain ⟨⟨t124, t125⟩, A30, H⟩ := H
  replace H : ((geom_Geom_Room.f 10 4 58).bind fun bt126 => (if t119 = 0 then (if (t116.length : Int) = 3 then (if 1 < (t116.length : Int) then (if (((rd_T43 t116 1).f0) == 1 && (((rd_T43 t116 1).f1) == 0 && (((rd_T43 t116 1).f2) == 4))) = true then (if t122 = 0 then (if t121 = 2 then (if t124 = 59 then (if t125 = 0 then (if bt126.1 = 13 then (if bt126.2 = 0 then ((geom_Geom_Chunks.f 10 4).bind fun t129 => (some (t129 == 3))) else (some false)) else (some false)) else (some false)) else (some false)) else (some false)) else (some false)) else (some false)) else (none)) else (some false)) else (some false))) = some r := H
  have A3 := Aside0.mk A30
  clear A30
  replace H := Option.bind_eq_some_iff.mp H
  obtain ⟨⟨t126, t127⟩, A40, H⟩ := H
  replace H : (if t119 = 0 then (if (t116.length : Int) = 3 then (if 1 < (t116.length : Int) then (if (((rd_T43 t116 1).f0) == 1 && (((rd_T43 t116 1).f1) == 0 && (((rd_T43 t116 1).f2) == 4))) = true then (if t122 = 0 then (if t121 = 2 then (if t124 = 59 then (if t125 = 0 then (if t126 = 13 then (if t127 = 0 then ((geom_Geom_Chunks.f 10 4).bind fun t129 => (some (t129 == 3))) else (some false)) else (some false)) else (some false)) else (some false)) else (some false)) else (some false)) else (some false)) else (none)) else (some false)) else (some false)) = some r := H
  have A4 := Aside0.mk A40
  clear A40
  by_cases c5 : t119 = 0
  · rw [if_pos c5] at H
    have c5b0 : (t119 == 0) = true := beq_iff_eq.mpr c5
    have c5b1 : (t119 != 0) = false := bne_eq_false_iff_eq.mpr c5
    clear c5
    by_cases c6 : (t116.length : Int) = 3
    · rw [if_pos c6] at H
      have c6b0 : ((t116.length : Int) == 3) = true := beq_iff_eq.mpr c6
      have c6b1 : ((t116.length : Int) != 3) = false := bne_eq_false_iff_eq.mpr c6
      clear c6
      by_cases c7 : 1 < (t116.length : Int)
      · rw [if_pos c7] at H
        have c7b0 : decide (1 < (t116.length : Int)) = true := decide_eq_true c7
        have c7b1 : decide (1 < t116.length) = true := decide_eq_true (by omega)
        clear c7
        by_cases c8 : (((rd_T43 t116 1).f0) == 1 && (((rd_T43 t116 1).f1) == 0 && (((rd_T43 t116 1).f2) == 4))) = true
        · rw [if_pos c8] at H
          have c8b0 : (((rd_T43 t116 1).f0) == 1 && (((rd_T43 t116 1).f1) == 0 && (((rd_T43 t116 1).f2) == 4))) = true := c8
          (try (have c8b1 : decide (((rd_T43 t116 1).f0) = 1 && (((rd_T43 t116 1).f1) == 0 && (((rd_T43 t116 1).f2) == 4))) = true := by simpa using c8))
          (try (have c8b2 : (((rd_T43 t116 1).f0) == 1 && (((rd_T43 t116 1).f1) == 0 && (((rd_T43 t116 1).f2) == 4))) = true := by simpa using c8))
          clear c8
          by_cases c9 : t122 = 0
          · rw [if_pos c9] at H
            have c9b0 : (t122 == 0) = true := beq_iff_eq.mpr c9
            have c9b1 : (t122 != 0) = false := bne_eq_false_iff_eq.mpr c9
            clear c9
            by_cases c10 : t121 = 2
            · rw [if_pos c10] at H
              have c10b0 : (t121 == 2) = true := beq_iff_eq.mpr c10
              have c10b1 : (t121 != 2) = false := bne_eq_false_iff_eq.mpr c10
              clear c10
              by_cases c11 : t124 = 59
              · rw [if_pos c11] at H
                have c11b0 : (t124 == 59) = true := beq_iff_eq.mpr c11
                have c11b1 : (t124 != 59) = false := bne_eq_false_iff_eq.mpr c11
                clear c11
                by_cases c12 : t125 = 0
                · rw [if_pos c12] at H
                  have c12b0 : (t125 == 0) = true := beq_iff_eq.mpr c12
                  have c12b1 : (t125 != 0) = false := bne_eq_false_iff_eq.mpr c12
                  clear c12
                  by_cases c13 : t126 = 13
                  · rw [if_pos c13] at H
                    have c13b0 : (t126 == 13) = true := beq_iff_eq.mpr c13
                    have c13b1 : (t126 != 13) = false := bne_eq_false_iff_eq.mpr c13
                    clear c13
                    by_cases c14 : t127 = 0
                    · rw [if_pos c14] at H
                      have c14b0 : (t127 == 0) = true := beq_iff_eq.mpr c14
                      have c14b1 : (t127 != 0) = false := bne_eq_false_iff_eq.mpr c14
                      clear c14
                      replace H := Option.bind_eq_some_iff.mp H
                      obtain ⟨t129, A150, H⟩ := H
                      replace H : (some (t129 == 3)) = some r := H
                      have A15 := Aside0.mk A150
                      clear A150
                      obtain rfl := Option.some.inj H
                      go_enter Try.func14, Try.ntmps14
                      go_wp2_with (first | ((with_reducible refine gate_dst (N := 1) rfl ?_); (try (refine gate_guard (by rfl) ?_; dsimp only)); refine box_event ?hg (N := 1) ?hd (cs := #[.int .i64 0, .int .i64 0]) (t := 23) ?hr ?_; (case hd => rfl); (case hg => rfl); (case hr => first | (go_simp; done) | (go_simp; rfl)); intro gb115 hg w16 hbox hb; have n0_ := Aside0.mk (below_step (by repeat (first | (with_reducible first | exact HB.out | apply below_alloc | apply pw_below_drewN | apply below_drew1) | exact HB.out)) hb); have n1_ := Aside0.mk (hbox); have n2_ := Aside0.mk ((by rw [hg]; exact (below_size (by repeat (first | (with_reducible first | exact HB.out | apply below_alloc | apply pw_below_drewN | apply below_drew1) | exact HB.out))) : w.heap.size ≤ gb115)); have n3_ := Aside0.mk ((by rw [hg]; exact (below_size (by repeat (first | (with_reducible first | exact HB.out | apply below_alloc | apply pw_below_drewN | apply below_drew1) | exact HB.out))) : w.heap.size ≤ gb115)); clear HB; have HB := n0_; have BK115 := n1_; have GW115 := n2_; have GE115 := n3_; clear n0_ n1_ n2_ n3_; clear hb hbox hg; have hcz17_0 : w16.cell? ⟨gb115, 0, none⟩ = some (.int .i64 0) := (blk_cell BK115.out 0).trans rfl; have hcz17_1 : w16.cell? ⟨gb115, 1, none⟩ = some (.int .i64 0) := (blk_cell BK115.out 1).trans rfl; have hfz17_0 := blk_frozen BK115.out 0; have hfz17_1 := blk_frozen BK115.out 1) | ((with_reducible refine gate_callee (f := 17) rfl ?_); refine goesL_ (some 13) rfl rfl Try.func17 (by kernel_rfl) rfl #[.agg #[.int .i64 10, .int .i64 4], .int .i64 3, .int .i64 6] rfl (by (try simp only [List.map_toArray, List.map_cons, List.map_nil]); first | done | rfl | (simp only [List.length_drop, List.length_take]; rfl)) ?_; (with_reducible refine (geom_Geom_Split.calls 10 4 3 6 t116 t119 _ A1.out).mono ?_); rintro e w18 ⟨v117, rfl, ho0, hb⟩; refine ⟨_, rfl, ?_⟩; have n0_ := Aside0.mk (Kd.R_lower ho0 (below_size (by repeat (first | (with_reducible first | exact HB.out | apply below_alloc | apply pw_below_drewN | apply below_drew1 | refine below_set ?_ GE115.out) | exact HB.out)))); have n1_ := Aside0.mk (blk_below (g := gb115) (o := .cells #[.int .i64 10, .int .i64 4] 23 (0, 0)) (by (with_reducible repeat (first | refine blk_drewN ?_ _ | refine blk_drew ?_ | refine blk_alloc ?_ _)); refine blk_put (cs := #[.int .i64 10, .int .i64 0]) ?_ 1 _ rfl; (with_reducible repeat (first | refine blk_drewN ?_ _ | refine blk_drew ?_ | refine blk_alloc ?_ _)); refine blk_put (cs := #[.int .i64 0, .int .i64 0]) ?_ 0 _ rfl; (with_reducible repeat (first | refine blk_drewN ?_ _ | refine blk_drew ?_ | refine blk_alloc ?_ _)); exact BK115.out) hb); have n2_ := Aside0.mk (below_step (by repeat (first | (with_reducible first | exact HB.out | apply below_alloc | apply pw_below_drewN | apply below_drew1 | refine below_set ?_ GE115.out) | exact HB.out)) hb); clear BK115; clear HB; have HO118 := n0_; have BK115 := n1_; have HB := n2_; clear n0_ n1_ n2_; (try clear hb); (try clear hb2); (try clear hk); (try clear hi); (try clear ho0); have hcz19_0 : w18.cell? ⟨gb115, 0, none⟩ = some (.int .i64 10) := (blk_cell BK115.out 0).trans rfl; have hcz19_1 : w18.cell? ⟨gb115, 1, none⟩ = some (.int .i64 4) := (blk_cell BK115.out 1).trans rfl; have hfz19_0 := blk_frozen BK115.out 0; have hfz19_1 := blk_frozen BK115.out 1) | ((with_reducible refine gate_callee (f := 15) rfl ?_); refine goesL_ (some 18) rfl rfl Try.func15 (by kernel_rfl) rfl #[.agg #[.int .i64 10, .int .i64 4], .int .i64 2] rfl (by (try simp only [List.map_toArray, List.map_cons, List.map_nil]); first | done | rfl | (simp only [List.length_drop, List.length_take]; rfl)) ?_; (with_reducible refine (geom_Geom_Span.calls 10 4 2 t120 t121 t122 _ A2.out).mono ?_); rintro e w20 ⟨rfl, hb⟩; refine ⟨_, rfl, ?_⟩; have n0_ := Aside0.mk (Kd.R_below (by (with_reducible repeat (first | apply Kd.R_alloc | apply Kd.R_drewN | apply Kd.R_drew)); exact HO118.out) hb); have n1_ := Aside0.mk (blk_below (g := gb115) (o := .cells #[.int .i64 10, .int .i64 4] 23 (0, 0)) (by (with_reducible repeat (first | refine blk_drewN ?_ _ | refine blk_drew ?_ | refine blk_alloc ?_ _)); exact BK115.out) hb); have n2_ := Aside0.mk (below_step (by repeat (first | (with_reducible first | exact HB.out | apply below_alloc | apply pw_below_drewN | apply below_drew1 | refine below_set ?_ GE115.out) | exact HB.out)) hb); clear HO118; clear BK115; clear HB; have HO118 := n0_; have BK115 := n1_; have HB := n2_; clear n0_ n1_ n2_; (try clear hb); (try clear hb2); (try clear hk); (try clear hi)) | ((with_reducible refine gate_dst (N := 4) rfl ?_); (try (refine gate_guard (by rfl) ?_; dsimp only)); refine box_event ?hg (N := 4) ?hd (cs := #[.int .i64 0, .int .i64 0]) (t := 25) ?hr ?_; (case hd => rfl); (case hg => rfl); (case hr => first | (go_simp; done) | (go_simp; rfl)); intro gb123 hg w21 hbox hb; have n0_ := Aside0.mk (Kd.R_below (by (with_reducible repeat (first | apply Kd.R_alloc | apply Kd.R_drewN | apply Kd.R_drew)); exact HO118.out) hb); have n1_ := Aside0.mk (blk_below (g := gb115) (o := .cells #[.int .i64 10, .int .i64 4] 23 (0, 0)) (by (with_reducible repeat (first | refine blk_drewN ?_ _ | refine blk_drew ?_ | refine blk_alloc ?_ _)); exact BK115.out) hb); have n2_ := Aside0.mk (below_step (by repeat (first | (with_reducible first | exact HB.out | apply below_alloc | apply pw_below_drewN | apply below_drew1 | refine below_set ?_ GE115.out) | exact HB.out)) hb); have n3_ := Aside0.mk (hbox); have n4_ := Aside0.mk ((by rw [hg]; exact (below_size (by repeat (first | (with_reducible first | exact HB.out | apply below_alloc | apply pw_below_drewN | apply below_drew1 | refine below_set ?_ GE115.out) | exact HB.out))) : w.heap.size ≤ gb123)); have n5_ := Aside0.mk ((by rw [hg]; exact (below_size (by repeat (first | (with_reducible first | exact HB.out | apply below_alloc | apply pw_below_drewN | apply below_drew1 | refine below_set ?_ GE115.out) | exact HB.out))) : w.heap.size ≤ gb123)); have n6_ := Aside0.mk ((by rw [hg]; exact Nat.ne_of_lt (blk_lt (g := gb115) (o := .cells #[.int .i64 10, .int .i64 4] 23 (0, 0)) (by (with_reducible repeat (first | refine blk_drewN ?_ _ | refine blk_drew ?_ | refine blk_alloc ?_ _)); exact BK115.out)) : gb115 ≠ gb123)); have n7_ := Aside0.mk ((by rw [hg]; exact Nat.ne_of_gt (blk_lt (g := gb115) (o := .cells #[.int .i64 10, .int .i64 4] 23 (0, 0)) (by (with_reducible repeat (first | refine blk_drewN ?_ _ | refine blk_drew ?_ | refine blk_alloc ?_ _)); exact BK115.out)) : gb123 ≠ gb115)); clear HO118; clear BK115; clear HB; have HO118 := n0_; have BK115 := n1_; have HB := n2_; have BK123 := n3_; have GW123 := n4_; have GE123 := n5_; have NB115_123 := n6_; have NB123_115 := n7_; clear n0_ n1_ n2_ n3_ n4_ n5_ n6_ n7_; clear hb hbox hg; have hnb22 := NB123_115.out; have hnc22 := NB115_123.out; have hcz23_0 : w21.cell? ⟨gb123, 0, none⟩ = some (.int .i64 0) := (blk_cell BK123.out 0).trans rfl; have hcz23_1 : w21.cell? ⟨gb123, 1, none⟩ = some (.int .i64 0) := (blk_cell BK123.out 1).trans rfl; have hfz23_0 := blk_frozen BK123.out 0; have hfz23_1 := blk_frozen BK123.out 1; have hcz24_0 : w21.cell? ⟨gb115, 0, none⟩ = some (.int .i64 10) := (blk_cell BK115.out 0).trans rfl; have hcz24_1 : w21.cell? ⟨gb115, 1, none⟩ = some (.int .i64 4) := (blk_cell BK115.out 1).trans rfl; have hfz24_0 := blk_frozen BK115.out 0; have hfz24_1 := blk_frozen BK115.out 1) | ((with_reducible refine gate_callee (f := 24) rfl ?_); refine goesL_ (some 23) rfl rfl Try.func24 (by kernel_rfl) rfl #[.agg #[.int .i64 10, .int .i64 4], .int .i64 14] rfl (by (try simp only [List.map_toArray, List.map_cons, List.map_nil]); first | done | rfl | (simp only [List.length_drop, List.length_take]; rfl)) ?_; (with_reducible refine (geom_Geom_Size.calls 10 4 14 t124 t125 _ A3.out).mono ?_); rintro e w25 ⟨rfl, hb⟩; refine ⟨_, rfl, ?_⟩; have n0_ := Aside0.mk (Kd.R_below (by (with_reducible repeat (first | apply Kd.R_alloc | apply Kd.R_drewN | apply Kd.R_drew)); exact (Kd.R_mono (Kd.R_far (p := ⟨gb123, 1, none⟩) (Kd.R_far (p := ⟨gb123, 0, none⟩) (Kd.R_types HO118.out BK123.out (by decide)) (fun _ hk => hk.2) (.int .i64 t120)) (fun _ hk => hk.2) (.int .i64 t121)) (fun _ h_ => h_.1))) hb); have n1_ := Aside0.mk (blk_below (g := gb115) (o := .cells #[.int .i64 10, .int .i64 4] 23 (0, 0)) (by (with_reducible repeat (first | refine blk_drewN ?_ _ | refine blk_drew ?_ | refine blk_alloc ?_ _)); refine blk_far ?_ NB115_123.out _; (with_reducible repeat (first | refine blk_drewN ?_ _ | refine blk_drew ?_ | refine blk_alloc ?_ _)); refine blk_far ?_ NB115_123.out _; (with_reducible repeat (first | refine blk_drewN ?_ _ | refine blk_drew ?_ | refine blk_alloc ?_ _)); exact BK115.out) hb); have n2_ := Aside0.mk (blk_below (g := gb123) (o := .cells #[.int .i64 t120, .int .i64 t121] 25 (0, 0)) (by (with_reducible repeat (first | refine blk_drewN ?_ _ | refine blk_drew ?_ | refine blk_alloc ?_ _)); refine blk_put (cs := #[.int .i64 t120, .int .i64 0]) ?_ 1 _ rfl; (with_reducible repeat (first | refine blk_drewN ?_ _ | refine blk_drew ?_ | refine blk_alloc ?_ _)); refine blk_put (cs := #[.int .i64 0, .int .i64 0]) ?_ 0 _ rfl; (with_reducible repeat (first | refine blk_drewN ?_ _ | refine blk_drew ?_ | refine blk_alloc ?_ _)); exact BK123.out) hb); have n3_ := Aside0.mk (below_step (by repeat (first | (with_reducible first | exact HB.out | apply below_alloc | apply pw_below_drewN | apply below_drew1 | refine below_set ?_ GE115.out | refine below_set ?_ GE123.out) | exact HB.out)) hb); clear HO118; clear BK115; clear BK123; clear HB; have HO118 := n0_; have BK115 := n1_; have BK123 := n2_; have HB := n3_; clear n0_ n1_ n2_ n3_; (try clear hb); (try clear hb2); (try clear hk); (try clear hi); have hcz26_0 : w25.cell? ⟨gb115, 0, none⟩ = some (.int .i64 10) := (blk_cell BK115.out 0).trans rfl; have hcz26_1 : w25.cell? ⟨gb115, 1, none⟩ = some (.int .i64 4) := (blk_cell BK115.out 1).trans rfl; have hfz26_0 := blk_frozen BK115.out 0; have hfz26_1 := blk_frozen BK115.out 1) | ((with_reducible refine gate_callee (f := 25) rfl ?_); refine goesL_ (some 28) rfl rfl Try.func25 (by kernel_rfl) rfl #[.agg #[.int .i64 10, .int .i64 4], .int .i64 58] rfl (by (try simp only [List.map_toArray, List.map_cons, List.map_nil]); first | done | rfl | (simp only [List.length_drop, List.length_take]; rfl)) ?_; (with_reducible refine (geom_Geom_Room.calls 10 4 58 t126 t127 _ A4.out).mono ?_); rintro e w27 ⟨rfl, hb⟩; refine ⟨_, rfl, ?_⟩; have n0_ := Aside0.mk (Kd.R_below (by (with_reducible repeat (first | apply Kd.R_alloc | apply Kd.R_drewN | apply Kd.R_drew)); exact HO118.out) hb); have n1_ := Aside0.mk (blk_below (g := gb115) (o := .cells #[.int .i64 10, .int .i64 4] 23 (0, 0)) (by (with_reducible repeat (first | refine blk_drewN ?_ _ | refine blk_drew ?_ | refine blk_alloc ?_ _)); exact BK115.out) hb); have n2_ := Aside0.mk (blk_below (g := gb123) (o := .cells #[.int .i64 t120, .int .i64 t121] 25 (0, 0)) (by (with_reducible repeat (first | refine blk_drewN ?_ _ | refine blk_drew ?_ | refine blk_alloc ?_ _)); exact BK123.out) hb); have n3_ := Aside0.mk (below_step (by repeat (first | (with_reducible first | exact HB.out | apply below_alloc | apply pw_below_drewN | apply below_drew1 | refine below_set ?_ GE115.out | refine below_set ?_ GE123.out) | exact HB.out)) hb); clear HO118; clear BK115; clear BK123; clear HB; have HO118 := n0_; have BK115 := n1_; have BK123 := n2_; have HB := n3_; clear n0_ n1_ n2_ n3_; (try clear hb); (try clear hb2); (try clear hk); (try clear hi); obtain ⟨Ao28, co28, eo28⟩ := Kd.R_slice HO118.out; subst eo28; have p128 : 0 ≤ (1 : Int) := (by omega); have q128 : 1 < (t116.length : Int) := of_decide_eq_true (by first | (with_reducible assumption) | assumption); obtain ⟨ad128, e128, hx128_0, hx128_1, hx128_2⟩ := at_T43 (Kd.R_reads' HO118.out).2.2 1 p128 q128; cases e128; (try simp only [show (1 : Int).toNat = 1 from rfl, Nat.reduceMul, Nat.reduceEqDiff, Go.Addr.add, ↓reduceIte] at hx128_0); (try simp only [show (1 : Int).toNat = 1 from rfl, Nat.reduceMul, Nat.reduceEqDiff, Go.Addr.add, ↓reduceIte] at hx128_1); (try simp only [show (1 : Int).toNat = 1 from rfl, Nat.reduceMul, Nat.reduceEqDiff, Go.Addr.add, ↓reduceIte] at hx128_2); have qi128 : (1 < t116.length) = True := eq_true (by omega); (try rw [show ((1 : Int)).toNat = 1 from rfl] at hx128_0); (try rw [show 1 * 3 = 3 from rfl] at hx128_0); (try rw [show ((1 : Int)).toNat = 1 from rfl] at hx128_1); (try rw [show 1 * 3 = 3 from rfl] at hx128_1); (try rw [show ((1 : Int)).toNat = 1 from rfl] at hx128_2); (try rw [show 1 * 3 = 3 from rfl] at hx128_2); replace p128 := eq_true p128; replace q128 := eq_true q128; have hcz29_0 : w27.cell? ⟨gb123, 0, none⟩ = some (.int .i64 t120) := (blk_cell BK123.out 0).trans rfl; have hcz29_1 : w27.cell? ⟨gb123, 1, none⟩ = some (.int .i64 t121) := (blk_cell BK123.out 1).trans rfl; have hfz29_0 := blk_frozen BK123.out 0; have hfz29_1 := blk_frozen BK123.out 1; have hcz30_0 : w27.cell? ⟨gb115, 0, none⟩ = some (.int .i64 10) := (blk_cell BK115.out 0).trans rfl; have hcz30_1 : w27.cell? ⟨gb115, 1, none⟩ = some (.int .i64 4) := (blk_cell BK115.out 1).trans rfl; have hfz30_0 := blk_frozen BK115.out 0; have hfz30_1 := blk_frozen BK115.out 1) | (go_at_call 22; (with_reducible refine (geom_Geom_Chunks.calls 10 4 t129 _ A15.out).mono ?_); rintro e w31 ⟨rfl, hb⟩; have n0_ := Aside0.mk (Kd.R_below (by (with_reducible repeat (first | apply Kd.R_alloc | apply Kd.R_drewN | apply Kd.R_drew)); exact HO118.out) hb); have n1_ := Aside0.mk (blk_below (g := gb115) (o := .cells #[.int .i64 10, .int .i64 4] 23 (0, 0)) (by (with_reducible repeat (first | refine blk_drewN ?_ _ | refine blk_drew ?_ | refine blk_alloc ?_ _)); exact BK115.out) hb); have n2_ := Aside0.mk (blk_below (g := gb123) (o := .cells #[.int .i64 t120, .int .i64 t121] 25 (0, 0)) (by (with_reducible repeat (first | refine blk_drewN ?_ _ | refine blk_drew ?_ | refine blk_alloc ?_ _)); exact BK123.out) hb); have n3_ := Aside0.mk (below_step (by repeat (first | (with_reducible first | exact HB.out | apply below_alloc | apply pw_below_drewN | apply below_drew1 | refine below_set ?_ GE115.out | refine below_set ?_ GE123.out) | exact HB.out)) hb); clear HO118; clear BK115; clear BK123; clear HB; have HO118 := n0_; have BK115 := n1_; have BK123 := n2_; have HB := n3_; clear n0_ n1_ n2_ n3_; (try clear hb); (try clear hb2); (try clear hk); (try clear hi)))
                      go_ret
                      exact ⟨by first | rfl | (simp [errW_none, errW_some] <;> rfl) | (simp [*, errW_none, errW_some] <;> rfl), by repeat (first | (with_reducible first | exact HB.out | apply below_alloc | apply pw_below_drewN | apply below_drew1 | refine below_set ?_ GE115.out | refine below_set ?_ GE123.out) | exact HB.out)⟩
                    · rw [if_neg c14] at H
                      have c14b0 : (t127 == 0) = false := beq_eq_false_iff_ne.mpr c14
                      have c14b1 : (t127 != 0) = true := bne_iff_ne.mpr c14
                      exact absurd ((Option.some.inj H).trans hrt.out) (by decide)
                  · rw [if_neg c13] at H
                    have c13b0 : (t126 == 13) = false := beq_eq_false_iff_ne.mpr c13
                    have c13b1 : (t126 != 13) = true := bne_iff_ne.mpr c13
                    exact absurd ((Option.some.inj H).trans hrt.out) (by decide)
                · rw [if_neg c12] at H
                  have c12b0 : (t125 == 0) = false := beq_eq_false_iff_ne.mpr c12
                  have c12b1 : (t125 != 0) = true := bne_iff_ne.mpr c12
                  exact absurd ((Option.some.inj H).trans hrt.out) (by decide)
              · rw [if_neg c11] at H
                have c11b0 : (t124 == 59) = false := beq_eq_false_iff_ne.mpr c11
                have c11b1 : (t124 != 59) = true := bne_iff_ne.mpr c11
                exact absurd ((Option.some.inj H).trans hrt.out) (by decide)
            · rw [if_neg c10] at H
              have c10b0 : (t121 == 2) = false := beq_eq_false_iff_ne.mpr c10
              have c10b1 : (t121 != 2) = true := bne_iff_ne.mpr c10
              exact absurd ((Option.some.inj H).trans hrt.out) (by decide)
          · rw [if_neg c9] at H
            have c9b0 : (t122 == 0) = false := beq_eq_false_iff_ne.mpr c9
            have c9b1 : (t122 != 0) = true := bne_iff_ne.mpr c9
            exact absurd ((Option.some.inj H).trans hrt.out) (by decide)
        · rw [if_neg c8] at H
          have c8b0 : (((rd_T43 t116 1).f0) == 1 && (((rd_T43 t116 1).f1) == 0 && (((rd_T43 t116 1).f2) == 4))) = false := by simpa using c8
          (try (have c8b1 : decide (((rd_T43 t116 1).f0) = 1 && (((rd_T43 t116 1).f1) == 0 && (((rd_T43 t116 1).f2) == 4))) = false := by simpa using c8))
          (try (have c8b2 : (((rd_T43 t116 1).f0) == 1 && (((rd_T43 t116 1).f1) == 0 && (((rd_T43 t116 1).f2) == 4))) = false := by simpa using c8))
          (try (have c8b3 : ¬ (((rd_T43 t116 1).f0) = 1 && (((rd_T43 t116 1).f1) == 0 && (((rd_T43 t116 1).f2) == 4))) := by simpa using c8))
          clear c8
          exact absurd ((Option.some.inj H).trans hrt.out) (by decide)
      · rw [if_neg c7] at H
        exact absurd H (by simp)
    · rw [if_neg c6] at H
      have c6b0 : ((t116.length : Int) == 3) = false := beq_eq_false_iff_ne.mpr c6
      have c6b1 : ((t116.length : Int) != 3) = true := bne_iff_ne.mpr c6
      exact absurd ((Option.some.inj H).trans hrt.out) (by decide)
  · rw [if_neg c5] at H
    have c5b0 : (t119 == 0) = false := beq_eq_false_iff_ne.mpr c5
    have c5b1 : (t119 != 0) = true := bne_iff_ne.mpr c5
    exact absurd ((Option.some.inj H).trans hrt.out) (by decide)

theorem oakumlaw05_alive.yes : oakumlaw05_alive.f = some true := by decide +kernel
theorem oakumlaw05_alive.calls (r : Bool) (w : World) (h : oakumlaw05_alive.f = some r) :
    Calls Try.prog 14 #[] w fun e w' => e = .returned (.bool r) ∧ Below w.heap.size w w' := by
  have e : r = true := Option.some.inj (h.symm.trans oakumlaw05_alive.yes)
  exact oakumlaw05_alive.calls_t r w (Aside0.mk e) h

end Go.Proofs.Ytfkbcldeohblpaa.PGeomSpans
