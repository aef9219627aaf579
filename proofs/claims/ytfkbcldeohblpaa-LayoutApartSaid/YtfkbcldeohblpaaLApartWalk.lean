/- Contracts of functions 7, laid by wip/tools (ownprint.py, sections.py). -/
import Derived.Test.YtfkbcldeohblpaaLApartDef
namespace Go.Proofs.Ytfkbcldeohblpaa.PLayoutApart
open Go.RowKit Go.Proofs.YtfkbcldeohblpaaW.PrintWords Go.Proofs.YtfkbcldeohblpaaW.PrintLast Go.Proofs.YtfkbcldeohblpaaW.PrintMore
attribute [local go_sem] max2_int min2_int max_two min_two max_three min_three max_four min_four
set_option linter.unusedVariables false
set_option linter.unusedSimpArgs false

set_option maxHeartbeats 8000000 in
set_option maxRecDepth 100000 in
theorem oakumlaw10_LayoutApart.calls (k : Nat) (a0_0 : Int) (a0_1 : Int) (a0_2 : Int) (a1_0 : Int) (a1_1 : Int) (a2_0 : Int) (a2_1 : Int) (r : Bool) (w : World) (hrt : Aside0 (r = true)) (h : oakumlaw10_LayoutApart.f k a0_0 a0_1 a0_2 a1_0 a1_1 a2_0 a2_1 = some r) :
  Calls Try.prog 7 #[.agg #[.int .i64 a0_0, .int .i64 a0_1, .int .i64 a0_2], .agg #[.int .i64 a1_0, .int .i64 a1_1], .agg #[.int .i64 a2_0, .int .i64 a2_1]] w fun e w' => e = .returned (.bool r) ∧ Below w.heap.size w w' := by
 have hu49 := Try.underlying49
 have hu25 := Try.underlying25
 have hu59 := Try.underlying59
 have hu51 := Try.underlying51
 have HB := Aside0.mk (Below.refl w.heap.size w)
 have H : ((layout_Of.f a0_0 a0_1 a0_2).bind fun bt172 => (if bt172.2.2.2 = 0 then (oakumlaw10_LayoutApart.j0 k a2_0 a2_1 (decide (a1_1 > 4000)) a0_0 a0_1 a0_2 a1_0 a1_1 bt172.1 bt172.2.1 bt172.2.2.1) else (oakumlaw10_LayoutApart.j0 k a2_0 a2_1 true a0_0 a0_1 a0_2 a1_0 a1_1 bt172.1 bt172.2.1 bt172.2.2.1))) = some r := h
 clear h
 replace H := Option.bind_eq_some_iff.mp H
 obtain ⟨⟨t172, t173, t174, t175⟩, A40, H⟩ := H
 replace H : (if t175 = 0 then (oakumlaw10_LayoutApart.j0 k a2_0 a2_1 (decide (a1_1 > 4000)) a0_0 a0_1 a0_2 a1_0 a1_1 t172 t173 t174) else (oakumlaw10_LayoutApart.j0 k a2_0 a2_1 true a0_0 a0_1 a0_2 a1_0 a1_1 t172 t173 t174)) = some r := H
 have A4 := Aside0.mk A40
 clear A40
 have HC5 := Aside0.mk H
 clear H
 go_enter Try.func7, Try.ntmps7
 go_upto_region 4 with (first | ((with_reducible refine gate_dst (N := 3) rfl ?_); refine box_event ?hg (N := 3) ?hd (cs := #[.int .i64 a0_0, .int .i64 a0_1, .int .i64 a0_2]) (t := 49) ?hr ?_; (case hd => rfl); (case hg => rfl); (case hr => first | (go_simp; done) | (go_simp; rfl)); intro gb169 hg w6 hbox hb; have n0_ := Aside0.mk (below_step (by repeat (first | (with_reducible first | exact HB.out | apply below_alloc | apply pw_below_drewN | apply below_drew1) | exact HB.out)) hb); have n1_ := Aside0.mk (hbox); have n2_ := Aside0.mk ((by rw [hg]; exact (below_size (by repeat (first | (with_reducible first | exact HB.out | apply below_alloc | apply pw_below_drewN | apply below_drew1) | exact HB.out))) : w.heap.size ≤ gb169)); have n3_ := Aside0.mk ((by rw [hg]; exact (below_size (by repeat (first | (with_reducible first | exact HB.out | apply below_alloc | apply pw_below_drewN | apply below_drew1) | exact HB.out))) : w.heap.size ≤ gb169)); clear HB; have HB := n0_; have BK169 := n1_; have GW169 := n2_; have GE169 := n3_; clear n0_ n1_ n2_ n3_; clear hb hbox hg) | ((with_reducible refine gate_dst (N := 4) rfl ?_); refine box_event ?hg (N := 4) ?hd (cs := #[.int .i64 a1_0, .int .i64 a1_1]) (t := 25) ?hr ?_; (case hd => rfl); (case hg => rfl); (case hr => first | (go_simp; done) | (go_simp; rfl)); intro gb170 hg w7 hbox hb; have n0_ := Aside0.mk (blk_below (g := gb169) (o := .cells #[.int .i64 a0_0, .int .i64 a0_1, .int .i64 a0_2] 49 (0, 0)) (by (with_reducible repeat (first | refine blk_drewN ?_ _ | refine blk_drew ?_ | refine blk_alloc ?_ _)); exact BK169.out) hb); have n1_ := Aside0.mk (below_step (by repeat (first | (with_reducible first | exact HB.out | apply below_alloc | apply pw_below_drewN | apply below_drew1 | refine below_set ?_ GE169.out) | exact HB.out)) hb); have n2_ := Aside0.mk (hbox); have n3_ := Aside0.mk ((by rw [hg]; exact (below_size (by repeat (first | (with_reducible first | exact HB.out | apply below_alloc | apply pw_below_drewN | apply below_drew1 | refine below_set ?_ GE169.out) | exact HB.out))) : w.heap.size ≤ gb170)); have n4_ := Aside0.mk ((by rw [hg]; exact (below_size (by repeat (first | (with_reducible first | exact HB.out | apply below_alloc | apply pw_below_drewN | apply below_drew1 | refine below_set ?_ GE169.out) | exact HB.out))) : w.heap.size ≤ gb170)); have n5_ := Aside0.mk ((by rw [hg]; exact Nat.ne_of_lt (blk_lt (g := gb169) (o := .cells #[.int .i64 a0_0, .int .i64 a0_1, .int .i64 a0_2] 49 (0, 0)) (by (with_reducible repeat (first | refine blk_drewN ?_ _ | refine blk_drew ?_ | refine blk_alloc ?_ _)); exact BK169.out)) : gb169 ≠ gb170)); have n6_ := Aside0.mk ((by rw [hg]; exact Nat.ne_of_gt (blk_lt (g := gb169) (o := .cells #[.int .i64 a0_0, .int .i64 a0_1, .int .i64 a0_2] 49 (0, 0)) (by (with_reducible repeat (first | refine blk_drewN ?_ _ | refine blk_drew ?_ | refine blk_alloc ?_ _)); exact BK169.out)) : gb170 ≠ gb169)); clear BK169; clear HB; have BK169 := n0_; have HB := n1_; have BK170 := n2_; have GW170 := n3_; have GE170 := n4_; have NB169_170 := n5_; have NB170_169 := n6_; clear n0_ n1_ n2_ n3_ n4_ n5_ n6_; clear hb hbox hg) | ((with_reducible refine gate_dst (N := 5) rfl ?_); refine box_event ?hg (N := 5) ?hd (cs := #[.int .i64 a2_0, .int .i64 a2_1]) (t := 59) ?hr ?_; (case hd => rfl); (case hg => rfl); (case hr => first | (go_simp; done) | (go_simp; rfl)); intro gb171 hg w8 hbox hb; have n0_ := Aside0.mk (blk_below (g := gb169) (o := .cells #[.int .i64 a0_0, .int .i64 a0_1, .int .i64 a0_2] 49 (0, 0)) (by (with_reducible repeat (first | refine blk_drewN ?_ _ | refine blk_drew ?_ | refine blk_alloc ?_ _)); exact BK169.out) hb); have n1_ := Aside0.mk (blk_below (g := gb170) (o := .cells #[.int .i64 a1_0, .int .i64 a1_1] 25 (0, 0)) (by (with_reducible repeat (first | refine blk_drewN ?_ _ | refine blk_drew ?_ | refine blk_alloc ?_ _)); exact BK170.out) hb); have n2_ := Aside0.mk (below_step (by repeat (first | (with_reducible first | exact HB.out | apply below_alloc | apply pw_below_drewN | apply below_drew1 | refine below_set ?_ GE169.out | refine below_set ?_ GE170.out) | exact HB.out)) hb); have n3_ := Aside0.mk (hbox); have n4_ := Aside0.mk ((by rw [hg]; exact (below_size (by repeat (first | (with_reducible first | exact HB.out | apply below_alloc | apply pw_below_drewN | apply below_drew1 | refine below_set ?_ GE169.out | refine below_set ?_ GE170.out) | exact HB.out))) : w.heap.size ≤ gb171)); have n5_ := Aside0.mk ((by rw [hg]; exact (below_size (by repeat (first | (with_reducible first | exact HB.out | apply below_alloc | apply pw_below_drewN | apply below_drew1 | refine below_set ?_ GE169.out | refine below_set ?_ GE170.out) | exact HB.out))) : w.heap.size ≤ gb171)); have n6_ := Aside0.mk ((by rw [hg]; exact Nat.ne_of_lt (blk_lt (g := gb169) (o := .cells #[.int .i64 a0_0, .int .i64 a0_1, .int .i64 a0_2] 49 (0, 0)) (by (with_reducible repeat (first | refine blk_drewN ?_ _ | refine blk_drew ?_ | refine blk_alloc ?_ _)); exact BK169.out)) : gb169 ≠ gb171)); have n7_ := Aside0.mk ((by rw [hg]; exact Nat.ne_of_gt (blk_lt (g := gb169) (o := .cells #[.int .i64 a0_0, .int .i64 a0_1, .int .i64 a0_2] 49 (0, 0)) (by (with_reducible repeat (first | refine blk_drewN ?_ _ | refine blk_drew ?_ | refine blk_alloc ?_ _)); exact BK169.out)) : gb171 ≠ gb169)); have n8_ := Aside0.mk ((by rw [hg]; exact Nat.ne_of_lt (blk_lt (g := gb170) (o := .cells #[.int .i64 a1_0, .int .i64 a1_1] 25 (0, 0)) (by (with_reducible repeat (first | refine blk_drewN ?_ _ | refine blk_drew ?_ | refine blk_alloc ?_ _)); exact BK170.out)) : gb170 ≠ gb171)); have n9_ := Aside0.mk ((by rw [hg]; exact Nat.ne_of_gt (blk_lt (g := gb170) (o := .cells #[.int .i64 a1_0, .int .i64 a1_1] 25 (0, 0)) (by (with_reducible repeat (first | refine blk_drewN ?_ _ | refine blk_drew ?_ | refine blk_alloc ?_ _)); exact BK170.out)) : gb171 ≠ gb170)); clear BK169; clear BK170; clear HB; have BK169 := n0_; have BK170 := n1_; have HB := n2_; have BK171 := n3_; have GW171 := n4_; have GE171 := n5_; have NB169_171 := n6_; have NB171_169 := n7_; have NB170_171 := n8_; have NB171_170 := n9_; clear n0_ n1_ n2_ n3_ n4_ n5_ n6_ n7_ n8_ n9_; clear hb hbox hg; have hnb9 := NB171_169.out; have hnc9 := NB169_171.out; have hnb10 := NB171_170.out; have hnc10 := NB170_171.out; have hcz11_0 : w8.cell? ⟨gb171, 0, none⟩ = some (.int .i64 a2_0) := (blk_cell BK171.out 0).trans rfl; have hcz11_1 : w8.cell? ⟨gb171, 1, none⟩ = some (.int .i64 a2_1) := (blk_cell BK171.out 1).trans rfl; have hfz11_0 := blk_frozen BK171.out 0; have hfz11_1 := blk_frozen BK171.out 1; have hnb12 := NB169_170.out; have hnc12 := NB170_169.out; have hcz13_0 : w8.cell? ⟨gb169, 0, none⟩ = some (.int .i64 a0_0) := (blk_cell BK169.out 0).trans rfl; have hcz13_1 : w8.cell? ⟨gb169, 1, none⟩ = some (.int .i64 a0_1) := (blk_cell BK169.out 1).trans rfl; have hcz13_2 : w8.cell? ⟨gb169, 2, none⟩ = some (.int .i64 a0_2) := (blk_cell BK169.out 2).trans rfl; have hfz13_0 := blk_frozen BK169.out 0; have hfz13_1 := blk_frozen BK169.out 1; have hfz13_2 := blk_frozen BK169.out 2) | ((with_reducible refine gate_callee (f := 26) rfl ?_); refine goesL_ (some 30) rfl rfl Try.func26 (by kernel_rfl) rfl #[.agg #[.int .i64 a0_0, .int .i64 a0_1, .int .i64 a0_2]] rfl (by (try simp only [List.map_toArray, List.map_cons, List.map_nil]); first | done | rfl | (simp only [List.length_drop, List.length_take]; rfl)) ?_; (with_reducible refine (layout_Of.calls a0_0 a0_1 a0_2 t172 t173 t174 t175 _ A4.out).mono ?_); rintro e w14 ⟨rfl, hb⟩; refine ⟨_, rfl, ?_⟩; have n0_ := Aside0.mk (blk_below (g := gb169) (o := .cells #[.int .i64 a0_0, .int .i64 a0_1, .int .i64 a0_2] 49 (0, 0)) (by (with_reducible repeat (first | refine blk_drewN ?_ _ | refine blk_drew ?_ | refine blk_alloc ?_ _)); exact BK169.out) hb); have n1_ := Aside0.mk (blk_below (g := gb170) (o := .cells #[.int .i64 a1_0, .int .i64 a1_1] 25 (0, 0)) (by (with_reducible repeat (first | refine blk_drewN ?_ _ | refine blk_drew ?_ | refine blk_alloc ?_ _)); exact BK170.out) hb); have n2_ := Aside0.mk (blk_below (g := gb171) (o := .cells #[.int .i64 a2_0, .int .i64 a2_1] 59 (0, 0)) (by (with_reducible repeat (first | refine blk_drewN ?_ _ | refine blk_drew ?_ | refine blk_alloc ?_ _)); exact BK171.out) hb); have n3_ := Aside0.mk (below_step (by repeat (first | (with_reducible first | exact HB.out | apply below_alloc | apply pw_below_drewN | apply below_drew1 | refine below_set ?_ GE169.out | refine below_set ?_ GE170.out | refine below_set ?_ GE171.out) | exact HB.out)) hb); clear BK169; clear BK170; clear BK171; clear HB; have BK169 := n0_; have BK170 := n1_; have BK171 := n2_; have HB := n3_; clear n0_ n1_ n2_ n3_; (try clear hb); (try clear hb2); (try clear hk); (try clear hi)) | ((with_reducible refine gate_dst (N := 9) rfl ?_); refine box_event ?hg (N := 9) ?hd (cs := #[.int .i64 0, .int .i64 0, .int .i64 0]) (t := 51) ?hr ?_; (case hd => rfl); (case hg => rfl); (case hr => first | (go_simp; done) | (go_simp; rfl)); intro gb176 hg w15 hbox hb; have n0_ := Aside0.mk (blk_below (g := gb169) (o := .cells #[.int .i64 a0_0, .int .i64 a0_1, .int .i64 a0_2] 49 (0, 0)) (by (with_reducible repeat (first | refine blk_drewN ?_ _ | refine blk_drew ?_ | refine blk_alloc ?_ _)); exact BK169.out) hb); have n1_ := Aside0.mk (blk_below (g := gb170) (o := .cells #[.int .i64 a1_0, .int .i64 a1_1] 25 (0, 0)) (by (with_reducible repeat (first | refine blk_drewN ?_ _ | refine blk_drew ?_ | refine blk_alloc ?_ _)); exact BK170.out) hb); have n2_ := Aside0.mk (blk_below (g := gb171) (o := .cells #[.int .i64 a2_0, .int .i64 a2_1] 59 (0, 0)) (by (with_reducible repeat (first | refine blk_drewN ?_ _ | refine blk_drew ?_ | refine blk_alloc ?_ _)); exact BK171.out) hb); have n3_ := Aside0.mk (below_step (by repeat (first | (with_reducible first | exact HB.out | apply below_alloc | apply pw_below_drewN | apply below_drew1 | refine below_set ?_ GE169.out | refine below_set ?_ GE170.out | refine below_set ?_ GE171.out) | exact HB.out)) hb); have n4_ := Aside0.mk (hbox); have n5_ := Aside0.mk ((by rw [hg]; exact (below_size (by repeat (first | (with_reducible first | exact HB.out | apply below_alloc | apply pw_below_drewN | apply below_drew1 | refine below_set ?_ GE169.out | refine below_set ?_ GE170.out | refine below_set ?_ GE171.out) | exact HB.out))) : w.heap.size ≤ gb176)); have n6_ := Aside0.mk ((by rw [hg]; exact (below_size (by repeat (first | (with_reducible first | exact HB.out | apply below_alloc | apply pw_below_drewN | apply below_drew1 | refine below_set ?_ GE169.out | refine below_set ?_ GE170.out | refine below_set ?_ GE171.out) | exact HB.out))) : w.heap.size ≤ gb176)); have n7_ := Aside0.mk ((by rw [hg]; exact Nat.ne_of_lt (blk_lt (g := gb169) (o := .cells #[.int .i64 a0_0, .int .i64 a0_1, .int .i64 a0_2] 49 (0, 0)) (by (with_reducible repeat (first | refine blk_drewN ?_ _ | refine blk_drew ?_ | refine blk_alloc ?_ _)); exact BK169.out)) : gb169 ≠ gb176)); have n8_ := Aside0.mk ((by rw [hg]; exact Nat.ne_of_gt (blk_lt (g := gb169) (o := .cells #[.int .i64 a0_0, .int .i64 a0_1, .int .i64 a0_2] 49 (0, 0)) (by (with_reducible repeat (first | refine blk_drewN ?_ _ | refine blk_drew ?_ | refine blk_alloc ?_ _)); exact BK169.out)) : gb176 ≠ gb169)); have n9_ := Aside0.mk ((by rw [hg]; exact Nat.ne_of_lt (blk_lt (g := gb170) (o := .cells #[.int .i64 a1_0, .int .i64 a1_1] 25 (0, 0)) (by (with_reducible repeat (first | refine blk_drewN ?_ _ | refine blk_drew ?_ | refine blk_alloc ?_ _)); exact BK170.out)) : gb170 ≠ gb176)); have n10_ := Aside0.mk ((by rw [hg]; exact Nat.ne_of_gt (blk_lt (g := gb170) (o := .cells #[.int .i64 a1_0, .int .i64 a1_1] 25 (0, 0)) (by (with_reducible repeat (first | refine blk_drewN ?_ _ | refine blk_drew ?_ | refine blk_alloc ?_ _)); exact BK170.out)) : gb176 ≠ gb170)); have n11_ := Aside0.mk ((by rw [hg]; exact Nat.ne_of_lt (blk_lt (g := gb171) (o := .cells #[.int .i64 a2_0, .int .i64 a2_1] 59 (0, 0)) (by (with_reducible repeat (first | refine blk_drewN ?_ _ | refine blk_drew ?_ | refine blk_alloc ?_ _)); exact BK171.out)) : gb171 ≠ gb176)); have n12_ := Aside0.mk ((by rw [hg]; exact Nat.ne_of_gt (blk_lt (g := gb171) (o := .cells #[.int .i64 a2_0, .int .i64 a2_1] 59 (0, 0)) (by (with_reducible repeat (first | refine blk_drewN ?_ _ | refine blk_drew ?_ | refine blk_alloc ?_ _)); exact BK171.out)) : gb176 ≠ gb171)); clear BK169; clear BK170; clear BK171; clear HB; have BK169 := n0_; have BK170 := n1_; have BK171 := n2_; have HB := n3_; have BK176 := n4_; have GW176 := n5_; have GE176 := n6_; have NB169_176 := n7_; have NB176_169 := n8_; have NB170_176 := n9_; have NB176_170 := n10_; have NB171_176 := n11_; have NB176_171 := n12_; clear n0_ n1_ n2_ n3_ n4_ n5_ n6_ n7_ n8_ n9_ n10_ n11_ n12_; clear hb hbox hg; have hnb16 := NB176_169.out; have hnc16 := NB169_176.out; have hnb17 := NB176_170.out; have hnc17 := NB170_176.out; have hnb18 := NB176_171.out; have hnc18 := NB171_176.out; have hcz19_0 : w15.cell? ⟨gb176, 0, none⟩ = some (.int .i64 0) := (blk_cell BK176.out 0).trans rfl; have hcz19_1 : w15.cell? ⟨gb176, 1, none⟩ = some (.int .i64 0) := (blk_cell BK176.out 1).trans rfl; have hcz19_2 : w15.cell? ⟨gb176, 2, none⟩ = some (.int .i64 0) := (blk_cell BK176.out 2).trans rfl; have hfz19_0 := blk_frozen BK176.out 0; have hfz19_1 := blk_frozen BK176.out 1; have hfz19_2 := blk_frozen BK176.out 2))
 (try simp only [Act.put, List.setIfInBounds_toArray, List.set_cons_zero, List.set_cons_succ])
 go_cut [39] (fun v39 wc => ∃ (kq : Nat) (x39_4 : Bool), v39 = .bool x39_4 ∧ Aside0 (oakumlaw10_LayoutApart.j0 kq a2_0 a2_1 x39_4 a0_0 a0_1 a0_2 a1_0 a1_1 t172 t173 t174 = some r) ∧ Aside0 (kq ≤ k) ∧ Aside0 (wc.heap[gb169]? = some (.cells #[.int .i64 a0_0, .int .i64 a0_1, .int .i64 a0_2] 49 (0, 0))) ∧ Aside0 (wc.heap[gb170]? = some (.cells #[.int .i64 a1_0, .int .i64 a1_1] 25 (0, 0))) ∧ Aside0 (wc.heap[gb171]? = some (.cells #[.int .i64 a2_0, .int .i64 a2_1] 59 (0, 0))) ∧ Aside0 (wc.heap[gb176]? = some (.cells #[.int .i64 t172, .int .i64 t173, .int .i64 t174] 51 (0, 0))) ∧ Aside0 (Below w.heap.size w wc))
 case first => as_aux_lemma =>
  have H := HC5.out
  clear HC5
  by_cases c20 : t175 = 0
  ·rw [if_pos c20] at H
   have c20b0 : (t175 == 0) = true := beq_iff_eq.mpr c20
   have c20b1 : (t175 != 0) = false := bne_eq_false_iff_eq.mpr c20
   clear c20
   (first | rw [c20b0] | (simp only [i64_w, i32_w]; rw [c20b0]) | skip)
   have H' := Aside0.mk H
   clear H
   have hnb21 := NB170_169.out
   have hnc21 := NB169_170.out
   have hnb22 := NB170_171.out
   have hnc22 := NB171_170.out
   have hnb23 := NB170_176.out
   have hnc23 := NB176_170.out
   have hcz24_0 : w15.cell? ⟨gb170, 0, none⟩ = some (.int .i64 a1_0) := (blk_cell BK170.out 0).trans rfl
   have hcz24_1 : w15.cell? ⟨gb170, 1, none⟩ = some (.int .i64 a1_1) := (blk_cell BK170.out 1).trans rfl
   have hfz24_0 := blk_frozen BK170.out 0
   have hfz24_1 := blk_frozen BK170.out 1
   go_wp2
   go_meet
   case rel => exact ⟨_, (decide (a1_1 > 4000)), (by first | rfl | (simp; done) | (simp [*]; done)), H', ⟨by first | omega | exact Nat.le_refl _⟩, ⟨by (with_reducible repeat (first | refine blk_drewN ?_ _ | refine blk_drew ?_ | refine blk_alloc ?_ _)); refine blk_far ?_ NB169_176.out _; (with_reducible repeat (first | refine blk_drewN ?_ _ | refine blk_drew ?_ | refine blk_alloc ?_ _)); refine blk_far ?_ NB169_176.out _; (with_reducible repeat (first | refine blk_drewN ?_ _ | refine blk_drew ?_ | refine blk_alloc ?_ _)); refine blk_far ?_ NB169_176.out _; (with_reducible repeat (first | refine blk_drewN ?_ _ | refine blk_drew ?_ | refine blk_alloc ?_ _)); exact BK169.out⟩, ⟨by (with_reducible repeat (first | refine blk_drewN ?_ _ | refine blk_drew ?_ | refine blk_alloc ?_ _)); refine blk_far ?_ NB170_176.out _; (with_reducible repeat (first | refine blk_drewN ?_ _ | refine blk_drew ?_ | refine blk_alloc ?_ _)); refine blk_far ?_ NB170_176.out _; (with_reducible repeat (first | refine blk_drewN ?_ _ | refine blk_drew ?_ | refine blk_alloc ?_ _)); refine blk_far ?_ NB170_176.out _; (with_reducible repeat (first | refine blk_drewN ?_ _ | refine blk_drew ?_ | refine blk_alloc ?_ _)); exact BK170.out⟩, ⟨by (with_reducible repeat (first | refine blk_drewN ?_ _ | refine blk_drew ?_ | refine blk_alloc ?_ _)); refine blk_far ?_ NB171_176.out _; (with_reducible repeat (first | refine blk_drewN ?_ _ | refine blk_drew ?_ | refine blk_alloc ?_ _)); refine blk_far ?_ NB171_176.out _; (with_reducible repeat (first | refine blk_drewN ?_ _ | refine blk_drew ?_ | refine blk_alloc ?_ _)); refine blk_far ?_ NB171_176.out _; (with_reducible repeat (first | refine blk_drewN ?_ _ | refine blk_drew ?_ | refine blk_alloc ?_ _)); exact BK171.out⟩, ⟨by (with_reducible repeat (first | refine blk_drewN ?_ _ | refine blk_drew ?_ | refine blk_alloc ?_ _)); refine blk_put (cs := #[.int .i64 t172, .int .i64 t173, .int .i64 0]) ?_ 2 _ rfl; (with_reducible repeat (first | refine blk_drewN ?_ _ | refine blk_drew ?_ | refine blk_alloc ?_ _)); refine blk_put (cs := #[.int .i64 t172, .int .i64 0, .int .i64 0]) ?_ 1 _ rfl; (with_reducible repeat (first | refine blk_drewN ?_ _ | refine blk_drew ?_ | refine blk_alloc ?_ _)); refine blk_put (cs := #[.int .i64 0, .int .i64 0, .int .i64 0]) ?_ 0 _ rfl; (with_reducible repeat (first | refine blk_drewN ?_ _ | refine blk_drew ?_ | refine blk_alloc ?_ _)); exact BK176.out⟩, ⟨by repeat (first | (with_reducible first | exact HB.out | apply below_alloc | apply pw_below_drewN | apply below_drew1 | refine below_set ?_ GE169.out | refine below_set ?_ GE170.out | refine below_set ?_ GE171.out | refine below_set ?_ GE176.out) | exact HB.out)⟩⟩
  ·rw [if_neg c20] at H
   have c20b0 : (t175 == 0) = false := beq_eq_false_iff_ne.mpr c20
   have c20b1 : (t175 != 0) = true := bne_iff_ne.mpr c20
   (first | rw [c20b0] | (simp only [i64_w, i32_w]; rw [c20b0]) | skip)
   have H' := Aside0.mk H
   clear H
   go_wp2
   go_meet
   case rel => exact ⟨_, (true), (by first | rfl | (simp; done) | (simp [*]; done)), H', ⟨by first | omega | exact Nat.le_refl _⟩, ⟨by (with_reducible repeat (first | refine blk_drewN ?_ _ | refine blk_drew ?_ | refine blk_alloc ?_ _)); refine blk_far ?_ NB169_176.out _; (with_reducible repeat (first | refine blk_drewN ?_ _ | refine blk_drew ?_ | refine blk_alloc ?_ _)); refine blk_far ?_ NB169_176.out _; (with_reducible repeat (first | refine blk_drewN ?_ _ | refine blk_drew ?_ | refine blk_alloc ?_ _)); refine blk_far ?_ NB169_176.out _; (with_reducible repeat (first | refine blk_drewN ?_ _ | refine blk_drew ?_ | refine blk_alloc ?_ _)); exact BK169.out⟩, ⟨by (with_reducible repeat (first | refine blk_drewN ?_ _ | refine blk_drew ?_ | refine blk_alloc ?_ _)); refine blk_far ?_ NB170_176.out _; (with_reducible repeat (first | refine blk_drewN ?_ _ | refine blk_drew ?_ | refine blk_alloc ?_ _)); refine blk_far ?_ NB170_176.out _; (with_reducible repeat (first | refine blk_drewN ?_ _ | refine blk_drew ?_ | refine blk_alloc ?_ _)); refine blk_far ?_ NB170_176.out _; (with_reducible repeat (first | refine blk_drewN ?_ _ | refine blk_drew ?_ | refine blk_alloc ?_ _)); exact BK170.out⟩, ⟨by (with_reducible repeat (first | refine blk_drewN ?_ _ | refine blk_drew ?_ | refine blk_alloc ?_ _)); refine blk_far ?_ NB171_176.out _; (with_reducible repeat (first | refine blk_drewN ?_ _ | refine blk_drew ?_ | refine blk_alloc ?_ _)); refine blk_far ?_ NB171_176.out _; (with_reducible repeat (first | refine blk_drewN ?_ _ | refine blk_drew ?_ | refine blk_alloc ?_ _)); refine blk_far ?_ NB171_176.out _; (with_reducible repeat (first | refine blk_drewN ?_ _ | refine blk_drew ?_ | refine blk_alloc ?_ _)); exact BK171.out⟩, ⟨by (with_reducible repeat (first | refine blk_drewN ?_ _ | refine blk_drew ?_ | refine blk_alloc ?_ _)); refine blk_put (cs := #[.int .i64 t172, .int .i64 t173, .int .i64 0]) ?_ 2 _ rfl; (with_reducible repeat (first | refine blk_drewN ?_ _ | refine blk_drew ?_ | refine blk_alloc ?_ _)); refine blk_put (cs := #[.int .i64 t172, .int .i64 0, .int .i64 0]) ?_ 1 _ rfl; (with_reducible repeat (first | refine blk_drewN ?_ _ | refine blk_drew ?_ | refine blk_alloc ?_ _)); refine blk_put (cs := #[.int .i64 0, .int .i64 0, .int .i64 0]) ?_ 0 _ rfl; (with_reducible repeat (first | refine blk_drewN ?_ _ | refine blk_drew ?_ | refine blk_alloc ?_ _)); exact BK176.out⟩, ⟨by repeat (first | (with_reducible first | exact HB.out | apply below_alloc | apply pw_below_drewN | apply below_drew1 | refine below_set ?_ GE169.out | refine below_set ?_ GE170.out | refine below_set ?_ GE171.out | refine below_set ?_ GE176.out) | exact HB.out)⟩⟩
 case rest => as_aux_lemma =>
  clear HC5
  try clear c1
  try clear c2
  try clear p2
  try clear c7
  try clear c9
  try clear c10
  try clear c12
  try clear c16
  try clear c17
  try clear c18
  try clear c20
  try clear c20b0
  try clear c20b1
  try clear c21
  try clear c22
  try clear c23
  try clear hcz11_0
  try clear hcz11_1
  try clear hcz13_0
  try clear hcz13_1
  try clear hcz13_2
  try clear hcz19_0
  try clear hcz19_1
  try clear hcz19_2
  try clear hcz24_0
  try clear hcz24_1
  try clear hfz11_0
  try clear hfz11_1
  try clear hfz13_0
  try clear hfz13_1
  try clear hfz13_2
  try clear hfz19_0
  try clear hfz19_1
  try clear hfz19_2
  try clear hfz24_0
  try clear hfz24_1
  obtain ⟨kq, x39_4, rfl, HA, HJ4, BK169, BK170, BK171, BK176, HB⟩ := hcut
  cases kq with
  | zero => exact absurd HA.out (by simp [oakumlaw10_LayoutApart.j0])
  | succ kj4 =>
   have H := HA.out
   clear HA
   simp only [oakumlaw10_LayoutApart.j0] at H
   by_cases c25 : x39_4 = true
   ·subst c25
    have H1 : ((oakumlaw10_alive.f kj4).bind fun t177 => (some t177)) = some r := by rw [if_pos rfl] at H; exact H
    clear H
    have H := H1
    clear H1
    replace H := Option.bind_eq_some_iff.mp H
    obtain ⟨t177, A260, H⟩ := H
    replace H : (some t177) = some r := H
    have A26 := Aside0.mk A260
    clear A260
    obtain rfl := Option.some.inj H
    go_wp2_with (first | ((with_reducible refine gate_callee (f := 29) rfl ?_); refine goesL_ (some 40) rfl rfl Try.func29 (by kernel_rfl) rfl #[] rfl (by (try simp only [List.map_toArray, List.map_cons, List.map_nil]); first | done | rfl | (simp only [List.length_drop, List.length_take]; rfl)) ?_; (with_reducible refine (oakumlaw10_alive.calls kj4  t177 _ A26.out).mono ?_); rintro e w27 ⟨rfl, hb⟩; refine ⟨_, rfl, ?_⟩; have n0_ := Aside0.mk (blk_below (g := gb169) (o := .cells #[.int .i64 a0_0, .int .i64 a0_1, .int .i64 a0_2] 49 (0, 0)) (by (with_reducible repeat (first | refine blk_drewN ?_ _ | refine blk_drew ?_ | refine blk_alloc ?_ _)); exact BK169.out) hb); have n1_ := Aside0.mk (blk_below (g := gb170) (o := .cells #[.int .i64 a1_0, .int .i64 a1_1] 25 (0, 0)) (by (with_reducible repeat (first | refine blk_drewN ?_ _ | refine blk_drew ?_ | refine blk_alloc ?_ _)); exact BK170.out) hb); have n2_ := Aside0.mk (blk_below (g := gb171) (o := .cells #[.int .i64 a2_0, .int .i64 a2_1] 59 (0, 0)) (by (with_reducible repeat (first | refine blk_drewN ?_ _ | refine blk_drew ?_ | refine blk_alloc ?_ _)); exact BK171.out) hb); have n3_ := Aside0.mk (blk_below (g := gb176) (o := .cells #[.int .i64 t172, .int .i64 t173, .int .i64 t174] 51 (0, 0)) (by (with_reducible repeat (first | refine blk_drewN ?_ _ | refine blk_drew ?_ | refine blk_alloc ?_ _)); exact BK176.out) hb); have n4_ := Aside0.mk (below_step (by repeat (first | (with_reducible first | exact HB.out | apply below_alloc | apply pw_below_drewN | apply below_drew1 | refine below_set ?_ GE169.out | refine below_set ?_ GE170.out | refine below_set ?_ GE171.out | refine below_set ?_ GE176.out) | exact HB.out)) hb); clear BK169; clear BK170; clear BK171; clear BK176; clear HB; have BK169 := n0_; have BK170 := n1_; have BK171 := n2_; have BK176 := n3_; have HB := n4_; clear n0_ n1_ n2_ n3_ n4_; (try clear hb); (try clear hb2); (try clear hk); (try clear hi)))
    go_ret
    exact ⟨by first | rfl | (simp [errW_none, errW_some] <;> rfl) | (simp [*, errW_none, errW_some] <;> rfl), by repeat (first | (with_reducible first | exact HB.out | apply below_alloc | apply pw_below_drewN | apply below_drew1 | refine below_set ?_ GE169.out | refine below_set ?_ GE170.out | refine below_set ?_ GE171.out | refine below_set ?_ GE176.out) | exact HB.out)⟩
   ·replace c25 := Bool.eq_false_iff.mpr c25
    subst c25
    have H1 : ((layout_Layout_Slot.f t172 t173 t174 0).bind fun bt178 => ((layout_Layout_Slot.f t172 t173 t174 15).bind fun bt180 => ((layout_Layout_Origin.f t172 t173 t174).bind fun bt182 => ((layout_Layout_Stores.f t172 t173 t174).bind fun bt185 => (if bt178.1 = 1 then (if bt180.1 = (wrap64 (bt182.1 - 1)) then (if (wrap64 (bt182.1 + bt182.2)) = bt185.1 then (if (wrap64 (bt185.1 + bt185.2)) = a0_0 then (oakumlaw10_LayoutApart.j1 kj4 a2_0 a2_1 (decide (bt185.2 < 0)) a1_0 a1_1 t172 t173 t174) else (oakumlaw10_LayoutApart.j1 kj4 a2_0 a2_1 true a1_0 a1_1 t172 t173 t174)) else (oakumlaw10_LayoutApart.j1 kj4 a2_0 a2_1 true a1_0 a1_1 t172 t173 t174)) else (oakumlaw10_LayoutApart.j1 kj4 a2_0 a2_1 true a1_0 a1_1 t172 t173 t174)) else (oakumlaw10_LayoutApart.j1 kj4 a2_0 a2_1 true a1_0 a1_1 t172 t173 t174)))))) = some r := by rw [if_neg (show ¬ (false = true) by decide)] at H; exact H
    clear H
    have H := H1
    clear H1
    replace H := Option.bind_eq_some_iff.mp H
    obtain ⟨⟨t178, t179⟩, A280, H⟩ := H
    replace H : ((layout_Layout_Slot.f t172 t173 t174 15).bind fun bt180 => ((layout_Layout_Origin.f t172 t173 t174).bind fun bt182 => ((layout_Layout_Stores.f t172 t173 t174).bind fun bt185 => (if t178 = 1 then (if bt180.1 = (wrap64 (bt182.1 - 1)) then (if (wrap64 (bt182.1 + bt182.2)) = bt185.1 then (if (wrap64 (bt185.1 + bt185.2)) = a0_0 then (oakumlaw10_LayoutApart.j1 kj4 a2_0 a2_1 (decide (bt185.2 < 0)) a1_0 a1_1 t172 t173 t174) else (oakumlaw10_LayoutApart.j1 kj4 a2_0 a2_1 true a1_0 a1_1 t172 t173 t174)) else (oakumlaw10_LayoutApart.j1 kj4 a2_0 a2_1 true a1_0 a1_1 t172 t173 t174)) else (oakumlaw10_LayoutApart.j1 kj4 a2_0 a2_1 true a1_0 a1_1 t172 t173 t174)) else (oakumlaw10_LayoutApart.j1 kj4 a2_0 a2_1 true a1_0 a1_1 t172 t173 t174))))) = some r := H
    have A28 := Aside0.mk A280
    clear A280
    replace H := Option.bind_eq_some_iff.mp H
    obtain ⟨⟨t180, t181⟩, A290, H⟩ := H
    replace H : ((layout_Layout_Origin.f t172 t173 t174).bind fun bt182 => ((layout_Layout_Stores.f t172 t173 t174).bind fun bt185 => (if t178 = 1 then (if t180 = (wrap64 (bt182.1 - 1)) then (if (wrap64 (bt182.1 + bt182.2)) = bt185.1 then (if (wrap64 (bt185.1 + bt185.2)) = a0_0 then (oakumlaw10_LayoutApart.j1 kj4 a2_0 a2_1 (decide (bt185.2 < 0)) a1_0 a1_1 t172 t173 t174) else (oakumlaw10_LayoutApart.j1 kj4 a2_0 a2_1 true a1_0 a1_1 t172 t173 t174)) else (oakumlaw10_LayoutApart.j1 kj4 a2_0 a2_1 true a1_0 a1_1 t172 t173 t174)) else (oakumlaw10_LayoutApart.j1 kj4 a2_0 a2_1 true a1_0 a1_1 t172 t173 t174)) else (oakumlaw10_LayoutApart.j1 kj4 a2_0 a2_1 true a1_0 a1_1 t172 t173 t174)))) = some r := H
    have A29 := Aside0.mk A290
    clear A290
    replace H := Option.bind_eq_some_iff.mp H
    obtain ⟨⟨t182, t183⟩, A300, H⟩ := H
    replace H : ((layout_Layout_Stores.f t172 t173 t174).bind fun bt185 => (if t178 = 1 then (if t180 = (wrap64 (t182 - 1)) then (if (wrap64 (t182 + t183)) = bt185.1 then (if (wrap64 (bt185.1 + bt185.2)) = a0_0 then (oakumlaw10_LayoutApart.j1 kj4 a2_0 a2_1 (decide (bt185.2 < 0)) a1_0 a1_1 t172 t173 t174) else (oakumlaw10_LayoutApart.j1 kj4 a2_0 a2_1 true a1_0 a1_1 t172 t173 t174)) else (oakumlaw10_LayoutApart.j1 kj4 a2_0 a2_1 true a1_0 a1_1 t172 t173 t174)) else (oakumlaw10_LayoutApart.j1 kj4 a2_0 a2_1 true a1_0 a1_1 t172 t173 t174)) else (oakumlaw10_LayoutApart.j1 kj4 a2_0 a2_1 true a1_0 a1_1 t172 t173 t174))) = some r := H
    have A30 := Aside0.mk A300
    clear A300
    replace H := Option.bind_eq_some_iff.mp H
    obtain ⟨⟨t185, t186⟩, A310, H⟩ := H
    replace H : (if t178 = 1 then (if t180 = (wrap64 (t182 - 1)) then (if (wrap64 (t182 + t183)) = t185 then (if (wrap64 (t185 + t186)) = a0_0 then (oakumlaw10_LayoutApart.j1 kj4 a2_0 a2_1 (decide (t186 < 0)) a1_0 a1_1 t172 t173 t174) else (oakumlaw10_LayoutApart.j1 kj4 a2_0 a2_1 true a1_0 a1_1 t172 t173 t174)) else (oakumlaw10_LayoutApart.j1 kj4 a2_0 a2_1 true a1_0 a1_1 t172 t173 t174)) else (oakumlaw10_LayoutApart.j1 kj4 a2_0 a2_1 true a1_0 a1_1 t172 t173 t174)) else (oakumlaw10_LayoutApart.j1 kj4 a2_0 a2_1 true a1_0 a1_1 t172 t173 t174)) = some r := H
    have A31 := Aside0.mk A310
    clear A310
    have HC32 := Aside0.mk H
    clear H
    have hnb33 := NB176_169.out
    have hnc33 := NB169_176.out
    have hnb34 := NB176_170.out
    have hnc34 := NB170_176.out
    have hnb35 := NB176_171.out
    have hnc35 := NB171_176.out
    have hcz36_0 : wc.cell? ⟨gb176, 0, none⟩ = some (.int .i64 t172) := (blk_cell BK176.out 0).trans rfl
    have hcz36_1 : wc.cell? ⟨gb176, 1, none⟩ = some (.int .i64 t173) := (blk_cell BK176.out 1).trans rfl
    have hcz36_2 : wc.cell? ⟨gb176, 2, none⟩ = some (.int .i64 t174) := (blk_cell BK176.out 2).trans rfl
    have hfz36_0 := blk_frozen BK176.out 0
    have hfz36_1 := blk_frozen BK176.out 1
    have hfz36_2 := blk_frozen BK176.out 2
    go_upto_region 10 with (first | ((with_reducible refine gate_callee (f := 28) rfl ?_); refine goesL_ (some 43) rfl rfl Try.func28 (by kernel_rfl) rfl #[.agg #[.int .i64 t172, .int .i64 t173, .int .i64 t174], .int .i64 0] rfl (by (try simp only [List.map_toArray, List.map_cons, List.map_nil]); first | done | rfl | (simp only [List.length_drop, List.length_take]; rfl)) ?_; (with_reducible refine (layout_Layout_Slot.calls t172 t173 t174 0 t178 t179 _ A28.out).mono ?_); rintro e w37 ⟨rfl, hb⟩; refine ⟨_, rfl, ?_⟩; have n0_ := Aside0.mk (blk_below (g := gb169) (o := .cells #[.int .i64 a0_0, .int .i64 a0_1, .int .i64 a0_2] 49 (0, 0)) (by (with_reducible repeat (first | refine blk_drewN ?_ _ | refine blk_drew ?_ | refine blk_alloc ?_ _)); exact BK169.out) hb); have n1_ := Aside0.mk (blk_below (g := gb170) (o := .cells #[.int .i64 a1_0, .int .i64 a1_1] 25 (0, 0)) (by (with_reducible repeat (first | refine blk_drewN ?_ _ | refine blk_drew ?_ | refine blk_alloc ?_ _)); exact BK170.out) hb); have n2_ := Aside0.mk (blk_below (g := gb171) (o := .cells #[.int .i64 a2_0, .int .i64 a2_1] 59 (0, 0)) (by (with_reducible repeat (first | refine blk_drewN ?_ _ | refine blk_drew ?_ | refine blk_alloc ?_ _)); exact BK171.out) hb); have n3_ := Aside0.mk (blk_below (g := gb176) (o := .cells #[.int .i64 t172, .int .i64 t173, .int .i64 t174] 51 (0, 0)) (by (with_reducible repeat (first | refine blk_drewN ?_ _ | refine blk_drew ?_ | refine blk_alloc ?_ _)); exact BK176.out) hb); have n4_ := Aside0.mk (below_step (by repeat (first | (with_reducible first | exact HB.out | apply below_alloc | apply pw_below_drewN | apply below_drew1 | refine below_set ?_ GE169.out | refine below_set ?_ GE170.out | refine below_set ?_ GE171.out | refine below_set ?_ GE176.out) | exact HB.out)) hb); clear BK169; clear BK170; clear BK171; clear BK176; clear HB; have BK169 := n0_; have BK170 := n1_; have BK171 := n2_; have BK176 := n3_; have HB := n4_; clear n0_ n1_ n2_ n3_ n4_; (try clear hb); (try clear hb2); (try clear hk); (try clear hi); have hcz38_0 : w37.cell? ⟨gb176, 0, none⟩ = some (.int .i64 t172) := (blk_cell BK176.out 0).trans rfl; have hcz38_1 : w37.cell? ⟨gb176, 1, none⟩ = some (.int .i64 t173) := (blk_cell BK176.out 1).trans rfl; have hcz38_2 : w37.cell? ⟨gb176, 2, none⟩ = some (.int .i64 t174) := (blk_cell BK176.out 2).trans rfl; have hfz38_0 := blk_frozen BK176.out 0; have hfz38_1 := blk_frozen BK176.out 1; have hfz38_2 := blk_frozen BK176.out 2) | ((with_reducible refine gate_callee (f := 28) rfl ?_); refine goesL_ (some 48) rfl rfl Try.func28 (by kernel_rfl) rfl #[.agg #[.int .i64 t172, .int .i64 t173, .int .i64 t174], .int .i64 15] rfl (by (try simp only [List.map_toArray, List.map_cons, List.map_nil]); first | done | rfl | (simp only [List.length_drop, List.length_take]; rfl)) ?_; (with_reducible refine (layout_Layout_Slot.calls t172 t173 t174 15 t180 t181 _ A29.out).mono ?_); rintro e w39 ⟨rfl, hb⟩; refine ⟨_, rfl, ?_⟩; have n0_ := Aside0.mk (blk_below (g := gb169) (o := .cells #[.int .i64 a0_0, .int .i64 a0_1, .int .i64 a0_2] 49 (0, 0)) (by (with_reducible repeat (first | refine blk_drewN ?_ _ | refine blk_drew ?_ | refine blk_alloc ?_ _)); exact BK169.out) hb); have n1_ := Aside0.mk (blk_below (g := gb170) (o := .cells #[.int .i64 a1_0, .int .i64 a1_1] 25 (0, 0)) (by (with_reducible repeat (first | refine blk_drewN ?_ _ | refine blk_drew ?_ | refine blk_alloc ?_ _)); exact BK170.out) hb); have n2_ := Aside0.mk (blk_below (g := gb171) (o := .cells #[.int .i64 a2_0, .int .i64 a2_1] 59 (0, 0)) (by (with_reducible repeat (first | refine blk_drewN ?_ _ | refine blk_drew ?_ | refine blk_alloc ?_ _)); exact BK171.out) hb); have n3_ := Aside0.mk (blk_below (g := gb176) (o := .cells #[.int .i64 t172, .int .i64 t173, .int .i64 t174] 51 (0, 0)) (by (with_reducible repeat (first | refine blk_drewN ?_ _ | refine blk_drew ?_ | refine blk_alloc ?_ _)); exact BK176.out) hb); have n4_ := Aside0.mk (below_step (by repeat (first | (with_reducible first | exact HB.out | apply below_alloc | apply pw_below_drewN | apply below_drew1 | refine below_set ?_ GE169.out | refine below_set ?_ GE170.out | refine below_set ?_ GE171.out | refine below_set ?_ GE176.out) | exact HB.out)) hb); clear BK169; clear BK170; clear BK171; clear BK176; clear HB; have BK169 := n0_; have BK170 := n1_; have BK171 := n2_; have BK176 := n3_; have HB := n4_; clear n0_ n1_ n2_ n3_ n4_; (try clear hb); (try clear hb2); (try clear hk); (try clear hi); have hcz40_0 : w39.cell? ⟨gb176, 0, none⟩ = some (.int .i64 t172) := (blk_cell BK176.out 0).trans rfl; have hcz40_1 : w39.cell? ⟨gb176, 1, none⟩ = some (.int .i64 t173) := (blk_cell BK176.out 1).trans rfl; have hcz40_2 : w39.cell? ⟨gb176, 2, none⟩ = some (.int .i64 t174) := (blk_cell BK176.out 2).trans rfl; have hfz40_0 := blk_frozen BK176.out 0; have hfz40_1 := blk_frozen BK176.out 1; have hfz40_2 := blk_frozen BK176.out 2) | ((with_reducible refine gate_callee (f := 31) rfl ?_); refine goesL_ (some 52) rfl rfl Try.func31 (by kernel_rfl) rfl #[.agg #[.int .i64 t172, .int .i64 t173, .int .i64 t174]] rfl (by (try simp only [List.map_toArray, List.map_cons, List.map_nil]); first | done | rfl | (simp only [List.length_drop, List.length_take]; rfl)) ?_; (with_reducible refine (layout_Layout_Origin.calls t172 t173 t174 t182 t183 _ A30.out).mono ?_); rintro e w41 ⟨rfl, hb⟩; refine ⟨_, rfl, ?_⟩; have n0_ := Aside0.mk (blk_below (g := gb169) (o := .cells #[.int .i64 a0_0, .int .i64 a0_1, .int .i64 a0_2] 49 (0, 0)) (by (with_reducible repeat (first | refine blk_drewN ?_ _ | refine blk_drew ?_ | refine blk_alloc ?_ _)); exact BK169.out) hb); have n1_ := Aside0.mk (blk_below (g := gb170) (o := .cells #[.int .i64 a1_0, .int .i64 a1_1] 25 (0, 0)) (by (with_reducible repeat (first | refine blk_drewN ?_ _ | refine blk_drew ?_ | refine blk_alloc ?_ _)); exact BK170.out) hb); have n2_ := Aside0.mk (blk_below (g := gb171) (o := .cells #[.int .i64 a2_0, .int .i64 a2_1] 59 (0, 0)) (by (with_reducible repeat (first | refine blk_drewN ?_ _ | refine blk_drew ?_ | refine blk_alloc ?_ _)); exact BK171.out) hb); have n3_ := Aside0.mk (blk_below (g := gb176) (o := .cells #[.int .i64 t172, .int .i64 t173, .int .i64 t174] 51 (0, 0)) (by (with_reducible repeat (first | refine blk_drewN ?_ _ | refine blk_drew ?_ | refine blk_alloc ?_ _)); exact BK176.out) hb); have n4_ := Aside0.mk (below_step (by repeat (first | (with_reducible first | exact HB.out | apply below_alloc | apply pw_below_drewN | apply below_drew1 | refine below_set ?_ GE169.out | refine below_set ?_ GE170.out | refine below_set ?_ GE171.out | refine below_set ?_ GE176.out) | exact HB.out)) hb); clear BK169; clear BK170; clear BK171; clear BK176; clear HB; have BK169 := n0_; have BK170 := n1_; have BK171 := n2_; have BK176 := n3_; have HB := n4_; clear n0_ n1_ n2_ n3_ n4_; (try clear hb); (try clear hb2); (try clear hk); (try clear hi)) | ((with_reducible refine gate_dst (N := 15) rfl ?_); refine box_event ?hg (N := 15) ?hd (cs := #[.int .i64 0, .int .i64 0]) (t := 25) ?hr ?_; (case hd => rfl); (case hg => rfl); (case hr => first | (go_simp; done) | (go_simp; rfl)); intro gb184 hg w42 hbox hb; have n0_ := Aside0.mk (blk_below (g := gb169) (o := .cells #[.int .i64 a0_0, .int .i64 a0_1, .int .i64 a0_2] 49 (0, 0)) (by (with_reducible repeat (first | refine blk_drewN ?_ _ | refine blk_drew ?_ | refine blk_alloc ?_ _)); exact BK169.out) hb); have n1_ := Aside0.mk (blk_below (g := gb170) (o := .cells #[.int .i64 a1_0, .int .i64 a1_1] 25 (0, 0)) (by (with_reducible repeat (first | refine blk_drewN ?_ _ | refine blk_drew ?_ | refine blk_alloc ?_ _)); exact BK170.out) hb); have n2_ := Aside0.mk (blk_below (g := gb171) (o := .cells #[.int .i64 a2_0, .int .i64 a2_1] 59 (0, 0)) (by (with_reducible repeat (first | refine blk_drewN ?_ _ | refine blk_drew ?_ | refine blk_alloc ?_ _)); exact BK171.out) hb); have n3_ := Aside0.mk (blk_below (g := gb176) (o := .cells #[.int .i64 t172, .int .i64 t173, .int .i64 t174] 51 (0, 0)) (by (with_reducible repeat (first | refine blk_drewN ?_ _ | refine blk_drew ?_ | refine blk_alloc ?_ _)); exact BK176.out) hb); have n4_ := Aside0.mk (below_step (by repeat (first | (with_reducible first | exact HB.out | apply below_alloc | apply pw_below_drewN | apply below_drew1 | refine below_set ?_ GE169.out | refine below_set ?_ GE170.out | refine below_set ?_ GE171.out | refine below_set ?_ GE176.out) | exact HB.out)) hb); have n5_ := Aside0.mk (hbox); have n6_ := Aside0.mk ((by rw [hg]; exact (below_size (by repeat (first | (with_reducible first | exact HB.out | apply below_alloc | apply pw_below_drewN | apply below_drew1 | refine below_set ?_ GE169.out | refine below_set ?_ GE170.out | refine below_set ?_ GE171.out | refine below_set ?_ GE176.out) | exact HB.out))) : w.heap.size ≤ gb184)); have n7_ := Aside0.mk ((by rw [hg]; exact (below_size (by repeat (first | (with_reducible first | exact HB.out | apply below_alloc | apply pw_below_drewN | apply below_drew1 | refine below_set ?_ GE169.out | refine below_set ?_ GE170.out | refine below_set ?_ GE171.out | refine below_set ?_ GE176.out) | exact HB.out))) : w.heap.size ≤ gb184)); have n8_ := Aside0.mk ((by rw [hg]; exact Nat.ne_of_lt (blk_lt (g := gb169) (o := .cells #[.int .i64 a0_0, .int .i64 a0_1, .int .i64 a0_2] 49 (0, 0)) (by (with_reducible repeat (first | refine blk_drewN ?_ _ | refine blk_drew ?_ | refine blk_alloc ?_ _)); exact BK169.out)) : gb169 ≠ gb184)); have n9_ := Aside0.mk ((by rw [hg]; exact Nat.ne_of_gt (blk_lt (g := gb169) (o := .cells #[.int .i64 a0_0, .int .i64 a0_1, .int .i64 a0_2] 49 (0, 0)) (by (with_reducible repeat (first | refine blk_drewN ?_ _ | refine blk_drew ?_ | refine blk_alloc ?_ _)); exact BK169.out)) : gb184 ≠ gb169)); have n10_ := Aside0.mk ((by rw [hg]; exact Nat.ne_of_lt (blk_lt (g := gb170) (o := .cells #[.int .i64 a1_0, .int .i64 a1_1] 25 (0, 0)) (by (with_reducible repeat (first | refine blk_drewN ?_ _ | refine blk_drew ?_ | refine blk_alloc ?_ _)); exact BK170.out)) : gb170 ≠ gb184)); have n11_ := Aside0.mk ((by rw [hg]; exact Nat.ne_of_gt (blk_lt (g := gb170) (o := .cells #[.int .i64 a1_0, .int .i64 a1_1] 25 (0, 0)) (by (with_reducible repeat (first | refine blk_drewN ?_ _ | refine blk_drew ?_ | refine blk_alloc ?_ _)); exact BK170.out)) : gb184 ≠ gb170)); have n12_ := Aside0.mk ((by rw [hg]; exact Nat.ne_of_lt (blk_lt (g := gb171) (o := .cells #[.int .i64 a2_0, .int .i64 a2_1] 59 (0, 0)) (by (with_reducible repeat (first | refine blk_drewN ?_ _ | refine blk_drew ?_ | refine blk_alloc ?_ _)); exact BK171.out)) : gb171 ≠ gb184)); have n13_ := Aside0.mk ((by rw [hg]; exact Nat.ne_of_gt (blk_lt (g := gb171) (o := .cells #[.int .i64 a2_0, .int .i64 a2_1] 59 (0, 0)) (by (with_reducible repeat (first | refine blk_drewN ?_ _ | refine blk_drew ?_ | refine blk_alloc ?_ _)); exact BK171.out)) : gb184 ≠ gb171)); have n14_ := Aside0.mk ((by rw [hg]; exact Nat.ne_of_lt (blk_lt (g := gb176) (o := .cells #[.int .i64 t172, .int .i64 t173, .int .i64 t174] 51 (0, 0)) (by (with_reducible repeat (first | refine blk_drewN ?_ _ | refine blk_drew ?_ | refine blk_alloc ?_ _)); exact BK176.out)) : gb176 ≠ gb184)); have n15_ := Aside0.mk ((by rw [hg]; exact Nat.ne_of_gt (blk_lt (g := gb176) (o := .cells #[.int .i64 t172, .int .i64 t173, .int .i64 t174] 51 (0, 0)) (by (with_reducible repeat (first | refine blk_drewN ?_ _ | refine blk_drew ?_ | refine blk_alloc ?_ _)); exact BK176.out)) : gb184 ≠ gb176)); clear BK169; clear BK170; clear BK171; clear BK176; clear HB; have BK169 := n0_; have BK170 := n1_; have BK171 := n2_; have BK176 := n3_; have HB := n4_; have BK184 := n5_; have GW184 := n6_; have GE184 := n7_; have NB169_184 := n8_; have NB184_169 := n9_; have NB170_184 := n10_; have NB184_170 := n11_; have NB171_184 := n12_; have NB184_171 := n13_; have NB176_184 := n14_; have NB184_176 := n15_; clear n0_ n1_ n2_ n3_ n4_ n5_ n6_ n7_ n8_ n9_ n10_ n11_ n12_ n13_ n14_ n15_; clear hb hbox hg; have hnb43 := NB184_169.out; have hnc43 := NB169_184.out; have hnb44 := NB184_170.out; have hnc44 := NB170_184.out; have hnb45 := NB184_171.out; have hnc45 := NB171_184.out; have hnb46 := NB184_176.out; have hnc46 := NB176_184.out; have hcz47_0 : w42.cell? ⟨gb184, 0, none⟩ = some (.int .i64 0) := (blk_cell BK184.out 0).trans rfl; have hcz47_1 : w42.cell? ⟨gb184, 1, none⟩ = some (.int .i64 0) := (blk_cell BK184.out 1).trans rfl; have hfz47_0 := blk_frozen BK184.out 0; have hfz47_1 := blk_frozen BK184.out 1; have hcz48_0 : w42.cell? ⟨gb176, 0, none⟩ = some (.int .i64 t172) := (blk_cell BK176.out 0).trans rfl; have hcz48_1 : w42.cell? ⟨gb176, 1, none⟩ = some (.int .i64 t173) := (blk_cell BK176.out 1).trans rfl; have hcz48_2 : w42.cell? ⟨gb176, 2, none⟩ = some (.int .i64 t174) := (blk_cell BK176.out 2).trans rfl; have hfz48_0 := blk_frozen BK176.out 0; have hfz48_1 := blk_frozen BK176.out 1; have hfz48_2 := blk_frozen BK176.out 2) | ((with_reducible refine gate_callee (f := 32) rfl ?_); refine goesL_ (some 54) rfl rfl Try.func32 (by kernel_rfl) rfl #[.agg #[.int .i64 t172, .int .i64 t173, .int .i64 t174]] rfl (by (try simp only [List.map_toArray, List.map_cons, List.map_nil]); first | done | rfl | (simp only [List.length_drop, List.length_take]; rfl)) ?_; (with_reducible refine (layout_Layout_Stores.calls t172 t173 t174 t185 t186 _ A31.out).mono ?_); rintro e w49 ⟨rfl, hb⟩; refine ⟨_, rfl, ?_⟩; have n0_ := Aside0.mk (blk_below (g := gb169) (o := .cells #[.int .i64 a0_0, .int .i64 a0_1, .int .i64 a0_2] 49 (0, 0)) (by (with_reducible repeat (first | refine blk_drewN ?_ _ | refine blk_drew ?_ | refine blk_alloc ?_ _)); refine blk_far ?_ NB169_184.out _; (with_reducible repeat (first | refine blk_drewN ?_ _ | refine blk_drew ?_ | refine blk_alloc ?_ _)); refine blk_far ?_ NB169_184.out _; (with_reducible repeat (first | refine blk_drewN ?_ _ | refine blk_drew ?_ | refine blk_alloc ?_ _)); exact BK169.out) hb); have n1_ := Aside0.mk (blk_below (g := gb170) (o := .cells #[.int .i64 a1_0, .int .i64 a1_1] 25 (0, 0)) (by (with_reducible repeat (first | refine blk_drewN ?_ _ | refine blk_drew ?_ | refine blk_alloc ?_ _)); refine blk_far ?_ NB170_184.out _; (with_reducible repeat (first | refine blk_drewN ?_ _ | refine blk_drew ?_ | refine blk_alloc ?_ _)); refine blk_far ?_ NB170_184.out _; (with_reducible repeat (first | refine blk_drewN ?_ _ | refine blk_drew ?_ | refine blk_alloc ?_ _)); exact BK170.out) hb); have n2_ := Aside0.mk (blk_below (g := gb171) (o := .cells #[.int .i64 a2_0, .int .i64 a2_1] 59 (0, 0)) (by (with_reducible repeat (first | refine blk_drewN ?_ _ | refine blk_drew ?_ | refine blk_alloc ?_ _)); refine blk_far ?_ NB171_184.out _; (with_reducible repeat (first | refine blk_drewN ?_ _ | refine blk_drew ?_ | refine blk_alloc ?_ _)); refine blk_far ?_ NB171_184.out _; (with_reducible repeat (first | refine blk_drewN ?_ _ | refine blk_drew ?_ | refine blk_alloc ?_ _)); exact BK171.out) hb); have n3_ := Aside0.mk (blk_below (g := gb176) (o := .cells #[.int .i64 t172, .int .i64 t173, .int .i64 t174] 51 (0, 0)) (by (with_reducible repeat (first | refine blk_drewN ?_ _ | refine blk_drew ?_ | refine blk_alloc ?_ _)); refine blk_far ?_ NB176_184.out _; (with_reducible repeat (first | refine blk_drewN ?_ _ | refine blk_drew ?_ | refine blk_alloc ?_ _)); refine blk_far ?_ NB176_184.out _; (with_reducible repeat (first | refine blk_drewN ?_ _ | refine blk_drew ?_ | refine blk_alloc ?_ _)); exact BK176.out) hb); have n4_ := Aside0.mk (blk_below (g := gb184) (o := .cells #[.int .i64 t182, .int .i64 t183] 25 (0, 0)) (by (with_reducible repeat (first | refine blk_drewN ?_ _ | refine blk_drew ?_ | refine blk_alloc ?_ _)); refine blk_put (cs := #[.int .i64 t182, .int .i64 0]) ?_ 1 _ rfl; (with_reducible repeat (first | refine blk_drewN ?_ _ | refine blk_drew ?_ | refine blk_alloc ?_ _)); refine blk_put (cs := #[.int .i64 0, .int .i64 0]) ?_ 0 _ rfl; (with_reducible repeat (first | refine blk_drewN ?_ _ | refine blk_drew ?_ | refine blk_alloc ?_ _)); exact BK184.out) hb); have n5_ := Aside0.mk (below_step (by repeat (first | (with_reducible first | exact HB.out | apply below_alloc | apply pw_below_drewN | apply below_drew1 | refine below_set ?_ GE169.out | refine below_set ?_ GE170.out | refine below_set ?_ GE171.out | refine below_set ?_ GE176.out | refine below_set ?_ GE184.out) | exact HB.out)) hb); clear BK169; clear BK170; clear BK171; clear BK176; clear BK184; clear HB; have BK169 := n0_; have BK170 := n1_; have BK171 := n2_; have BK176 := n3_; have BK184 := n4_; have HB := n5_; clear n0_ n1_ n2_ n3_ n4_ n5_; (try clear hb); (try clear hb2); (try clear hk); (try clear hi)) | ((with_reducible refine gate_dst (N := 16) rfl ?_); refine box_event ?hg (N := 16) ?hd (cs := #[.int .i64 0, .int .i64 0]) (t := 25) ?hr ?_; (case hd => rfl); (case hg => rfl); (case hr => first | (go_simp; done) | (go_simp; rfl)); intro gb187 hg w50 hbox hb; have n0_ := Aside0.mk (blk_below (g := gb169) (o := .cells #[.int .i64 a0_0, .int .i64 a0_1, .int .i64 a0_2] 49 (0, 0)) (by (with_reducible repeat (first | refine blk_drewN ?_ _ | refine blk_drew ?_ | refine blk_alloc ?_ _)); exact BK169.out) hb); have n1_ := Aside0.mk (blk_below (g := gb170) (o := .cells #[.int .i64 a1_0, .int .i64 a1_1] 25 (0, 0)) (by (with_reducible repeat (first | refine blk_drewN ?_ _ | refine blk_drew ?_ | refine blk_alloc ?_ _)); exact BK170.out) hb); have n2_ := Aside0.mk (blk_below (g := gb171) (o := .cells #[.int .i64 a2_0, .int .i64 a2_1] 59 (0, 0)) (by (with_reducible repeat (first | refine blk_drewN ?_ _ | refine blk_drew ?_ | refine blk_alloc ?_ _)); exact BK171.out) hb); have n3_ := Aside0.mk (blk_below (g := gb176) (o := .cells #[.int .i64 t172, .int .i64 t173, .int .i64 t174] 51 (0, 0)) (by (with_reducible repeat (first | refine blk_drewN ?_ _ | refine blk_drew ?_ | refine blk_alloc ?_ _)); exact BK176.out) hb); have n4_ := Aside0.mk (blk_below (g := gb184) (o := .cells #[.int .i64 t182, .int .i64 t183] 25 (0, 0)) (by (with_reducible repeat (first | refine blk_drewN ?_ _ | refine blk_drew ?_ | refine blk_alloc ?_ _)); exact BK184.out) hb); have n5_ := Aside0.mk (below_step (by repeat (first | (with_reducible first | exact HB.out | apply below_alloc | apply pw_below_drewN | apply below_drew1 | refine below_set ?_ GE169.out | refine below_set ?_ GE170.out | refine below_set ?_ GE171.out | refine below_set ?_ GE176.out | refine below_set ?_ GE184.out) | exact HB.out)) hb); have n6_ := Aside0.mk (hbox); have n7_ := Aside0.mk ((by rw [hg]; exact (below_size (by repeat (first | (with_reducible first | exact HB.out | apply below_alloc | apply pw_below_drewN | apply below_drew1 | refine below_set ?_ GE169.out | refine below_set ?_ GE170.out | refine below_set ?_ GE171.out | refine below_set ?_ GE176.out | refine below_set ?_ GE184.out) | exact HB.out))) : w.heap.size ≤ gb187)); have n8_ := Aside0.mk ((by rw [hg]; exact (below_size (by repeat (first | (with_reducible first | exact HB.out | apply below_alloc | apply pw_below_drewN | apply below_drew1 | refine below_set ?_ GE169.out | refine below_set ?_ GE170.out | refine below_set ?_ GE171.out | refine below_set ?_ GE176.out | refine below_set ?_ GE184.out) | exact HB.out))) : w.heap.size ≤ gb187)); have n9_ := Aside0.mk ((by rw [hg]; exact Nat.ne_of_lt (blk_lt (g := gb169) (o := .cells #[.int .i64 a0_0, .int .i64 a0_1, .int .i64 a0_2] 49 (0, 0)) (by (with_reducible repeat (first | refine blk_drewN ?_ _ | refine blk_drew ?_ | refine blk_alloc ?_ _)); exact BK169.out)) : gb169 ≠ gb187)); have n10_ := Aside0.mk ((by rw [hg]; exact Nat.ne_of_gt (blk_lt (g := gb169) (o := .cells #[.int .i64 a0_0, .int .i64 a0_1, .int .i64 a0_2] 49 (0, 0)) (by (with_reducible repeat (first | refine blk_drewN ?_ _ | refine blk_drew ?_ | refine blk_alloc ?_ _)); exact BK169.out)) : gb187 ≠ gb169)); have n11_ := Aside0.mk ((by rw [hg]; exact Nat.ne_of_lt (blk_lt (g := gb170) (o := .cells #[.int .i64 a1_0, .int .i64 a1_1] 25 (0, 0)) (by (with_reducible repeat (first | refine blk_drewN ?_ _ | refine blk_drew ?_ | refine blk_alloc ?_ _)); exact BK170.out)) : gb170 ≠ gb187)); have n12_ := Aside0.mk ((by rw [hg]; exact Nat.ne_of_gt (blk_lt (g := gb170) (o := .cells #[.int .i64 a1_0, .int .i64 a1_1] 25 (0, 0)) (by (with_reducible repeat (first | refine blk_drewN ?_ _ | refine blk_drew ?_ | refine blk_alloc ?_ _)); exact BK170.out)) : gb187 ≠ gb170)); have n13_ := Aside0.mk ((by rw [hg]; exact Nat.ne_of_lt (blk_lt (g := gb171) (o := .cells #[.int .i64 a2_0, .int .i64 a2_1] 59 (0, 0)) (by (with_reducible repeat (first | refine blk_drewN ?_ _ | refine blk_drew ?_ | refine blk_alloc ?_ _)); exact BK171.out)) : gb171 ≠ gb187)); have n14_ := Aside0.mk ((by rw [hg]; exact Nat.ne_of_gt (blk_lt (g := gb171) (o := .cells #[.int .i64 a2_0, .int .i64 a2_1] 59 (0, 0)) (by (with_reducible repeat (first | refine blk_drewN ?_ _ | refine blk_drew ?_ | refine blk_alloc ?_ _)); exact BK171.out)) : gb187 ≠ gb171)); have n15_ := Aside0.mk ((by rw [hg]; exact Nat.ne_of_lt (blk_lt (g := gb176) (o := .cells #[.int .i64 t172, .int .i64 t173, .int .i64 t174] 51 (0, 0)) (by (with_reducible repeat (first | refine blk_drewN ?_ _ | refine blk_drew ?_ | refine blk_alloc ?_ _)); exact BK176.out)) : gb176 ≠ gb187)); have n16_ := Aside0.mk ((by rw [hg]; exact Nat.ne_of_gt (blk_lt (g := gb176) (o := .cells #[.int .i64 t172, .int .i64 t173, .int .i64 t174] 51 (0, 0)) (by (with_reducible repeat (first | refine blk_drewN ?_ _ | refine blk_drew ?_ | refine blk_alloc ?_ _)); exact BK176.out)) : gb187 ≠ gb176)); have n17_ := Aside0.mk ((by rw [hg]; exact Nat.ne_of_lt (blk_lt (g := gb184) (o := .cells #[.int .i64 t182, .int .i64 t183] 25 (0, 0)) (by (with_reducible repeat (first | refine blk_drewN ?_ _ | refine blk_drew ?_ | refine blk_alloc ?_ _)); exact BK184.out)) : gb184 ≠ gb187)); have n18_ := Aside0.mk ((by rw [hg]; exact Nat.ne_of_gt (blk_lt (g := gb184) (o := .cells #[.int .i64 t182, .int .i64 t183] 25 (0, 0)) (by (with_reducible repeat (first | refine blk_drewN ?_ _ | refine blk_drew ?_ | refine blk_alloc ?_ _)); exact BK184.out)) : gb187 ≠ gb184)); clear BK169; clear BK170; clear BK171; clear BK176; clear BK184; clear HB; have BK169 := n0_; have BK170 := n1_; have BK171 := n2_; have BK176 := n3_; have BK184 := n4_; have HB := n5_; have BK187 := n6_; have GW187 := n7_; have GE187 := n8_; have NB169_187 := n9_; have NB187_169 := n10_; have NB170_187 := n11_; have NB187_170 := n12_; have NB171_187 := n13_; have NB187_171 := n14_; have NB176_187 := n15_; have NB187_176 := n16_; have NB184_187 := n17_; have NB187_184 := n18_; clear n0_ n1_ n2_ n3_ n4_ n5_ n6_ n7_ n8_ n9_ n10_ n11_ n12_ n13_ n14_ n15_ n16_ n17_ n18_; clear hb hbox hg; have hnb51 := NB187_169.out; have hnc51 := NB169_187.out; have hnb52 := NB187_170.out; have hnc52 := NB170_187.out; have hnb53 := NB187_171.out; have hnc53 := NB171_187.out; have hnb54 := NB187_176.out; have hnc54 := NB176_187.out; have hnb55 := NB187_184.out; have hnc55 := NB184_187.out; have hcz56_0 : w50.cell? ⟨gb187, 0, none⟩ = some (.int .i64 0) := (blk_cell BK187.out 0).trans rfl; have hcz56_1 : w50.cell? ⟨gb187, 1, none⟩ = some (.int .i64 0) := (blk_cell BK187.out 1).trans rfl; have hfz56_0 := blk_frozen BK187.out 0; have hfz56_1 := blk_frozen BK187.out 1))
    (try simp only [Act.put, List.setIfInBounds_toArray, List.set_cons_zero, List.set_cons_succ])
    go_cut [88] (fun v88 wc => ∃ (kq : Nat) (x88_31 : Bool), v88 = .bool x88_31 ∧ Aside0 (oakumlaw10_LayoutApart.j1 kq a2_0 a2_1 x88_31 a1_0 a1_1 t172 t173 t174 = some r) ∧ Aside0 (kq ≤ kj4) ∧ Aside0 (wc.heap[gb169]? = some (.cells #[.int .i64 a0_0, .int .i64 a0_1, .int .i64 a0_2] 49 (0, 0))) ∧ Aside0 (wc.heap[gb170]? = some (.cells #[.int .i64 a1_0, .int .i64 a1_1] 25 (0, 0))) ∧ Aside0 (wc.heap[gb171]? = some (.cells #[.int .i64 a2_0, .int .i64 a2_1] 59 (0, 0))) ∧ Aside0 (wc.heap[gb176]? = some (.cells #[.int .i64 t172, .int .i64 t173, .int .i64 t174] 51 (0, 0))) ∧ Aside0 (wc.heap[gb184]? = some (.cells #[.int .i64 t182, .int .i64 t183] 25 (0, 0))) ∧ Aside0 (wc.heap[gb187]? = some (.cells #[.int .i64 t185, .int .i64 t186] 25 (0, 0))) ∧ Aside0 (Below w.heap.size w wc))
    case first => as_aux_lemma =>
     have H := HC32.out
     clear HC32
     by_cases c57 : t178 = 1
     ·rw [if_pos c57] at H
      have c57b0 : (t178 == 1) = true := beq_iff_eq.mpr c57
      have c57b1 : (t178 != 1) = false := bne_eq_false_iff_eq.mpr c57
      clear c57
      (first | rw [c57b0] | (simp only [i64_w, i32_w]; rw [c57b0]) | skip)
      by_cases c58 : t180 = (wrap64 (t182 - 1))
      ·rw [if_pos c58] at H
       have c58b0 : (t180 == (wrap64 (t182 - 1))) = true := beq_iff_eq.mpr c58
       have c58b1 : (t180 != (wrap64 (t182 - 1))) = false := bne_eq_false_iff_eq.mpr c58
       clear c58
       by_cases c59 : (wrap64 (t182 + t183)) = t185
       ·rw [if_pos c59] at H
        have c59b0 : ((wrap64 (t182 + t183)) == t185) = true := beq_iff_eq.mpr c59
        have c59b1 : ((wrap64 (t182 + t183)) != t185) = false := bne_eq_false_iff_eq.mpr c59
        clear c59
        by_cases c60 : (wrap64 (t185 + t186)) = a0_0
        ·rw [if_pos c60] at H
         have c60b0 : ((wrap64 (t185 + t186)) == a0_0) = true := beq_iff_eq.mpr c60
         have c60b1 : ((wrap64 (t185 + t186)) != a0_0) = false := bne_eq_false_iff_eq.mpr c60
         clear c60
         have H' := Aside0.mk H
         clear H
         have hnb61 := NB184_169.out
         have hnc61 := NB169_184.out
         have hnb62 := NB184_170.out
         have hnc62 := NB170_184.out
         have hnb63 := NB184_171.out
         have hnc63 := NB171_184.out
         have hnb64 := NB184_176.out
         have hnc64 := NB176_184.out
         have hnb65 := NB184_187.out
         have hnc65 := NB187_184.out
         have hcz66_0 : w50.cell? ⟨gb184, 0, none⟩ = some (.int .i64 t182) := (blk_cell BK184.out 0).trans rfl
         have hcz66_1 : w50.cell? ⟨gb184, 1, none⟩ = some (.int .i64 t183) := (blk_cell BK184.out 1).trans rfl
         have hfz66_0 := blk_frozen BK184.out 0
         have hfz66_1 := blk_frozen BK184.out 1
         have hnb67 := NB187_169.out
         have hnc67 := NB169_187.out
         have hnb68 := NB187_170.out
         have hnc68 := NB170_187.out
         have hnb69 := NB187_171.out
         have hnc69 := NB171_187.out
         have hnb70 := NB187_176.out
         have hnc70 := NB176_187.out
         have hcz71_0 : w50.cell? ⟨gb187, 0, none⟩ = some (.int .i64 0) := (blk_cell BK187.out 0).trans rfl
         have hcz71_1 : w50.cell? ⟨gb187, 1, none⟩ = some (.int .i64 0) := (blk_cell BK187.out 1).trans rfl
         have hfz71_0 := blk_frozen BK187.out 0
         have hfz71_1 := blk_frozen BK187.out 1
         have hnb72 := NB169_170.out
         have hnc72 := NB170_169.out
         have hnb73 := NB169_171.out
         have hnc73 := NB171_169.out
         have hnb74 := NB169_176.out
         have hnc74 := NB176_169.out
         have hcz75_0 : w50.cell? ⟨gb169, 0, none⟩ = some (.int .i64 a0_0) := (blk_cell BK169.out 0).trans rfl
         have hcz75_1 : w50.cell? ⟨gb169, 1, none⟩ = some (.int .i64 a0_1) := (blk_cell BK169.out 1).trans rfl
         have hcz75_2 : w50.cell? ⟨gb169, 2, none⟩ = some (.int .i64 a0_2) := (blk_cell BK169.out 2).trans rfl
         have hfz75_0 := blk_frozen BK169.out 0
         have hfz75_1 := blk_frozen BK169.out 1
         have hfz75_2 := blk_frozen BK169.out 2
         go_wp2
         go_meet
         case rel => exact ⟨_, (decide (t186 < 0)), (by first | rfl | (simp; done) | (simp [*]; done)), H', ⟨by have := HJ4.out; first | omega | exact Nat.le_refl _⟩, ⟨by (with_reducible repeat (first | refine blk_drewN ?_ _ | refine blk_drew ?_ | refine blk_alloc ?_ _)); refine blk_far ?_ NB169_187.out _; (with_reducible repeat (first | refine blk_drewN ?_ _ | refine blk_drew ?_ | refine blk_alloc ?_ _)); refine blk_far ?_ NB169_187.out _; (with_reducible repeat (first | refine blk_drewN ?_ _ | refine blk_drew ?_ | refine blk_alloc ?_ _)); exact BK169.out⟩, ⟨by (with_reducible repeat (first | refine blk_drewN ?_ _ | refine blk_drew ?_ | refine blk_alloc ?_ _)); refine blk_far ?_ NB170_187.out _; (with_reducible repeat (first | refine blk_drewN ?_ _ | refine blk_drew ?_ | refine blk_alloc ?_ _)); refine blk_far ?_ NB170_187.out _; (with_reducible repeat (first | refine blk_drewN ?_ _ | refine blk_drew ?_ | refine blk_alloc ?_ _)); exact BK170.out⟩, ⟨by (with_reducible repeat (first | refine blk_drewN ?_ _ | refine blk_drew ?_ | refine blk_alloc ?_ _)); refine blk_far ?_ NB171_187.out _; (with_reducible repeat (first | refine blk_drewN ?_ _ | refine blk_drew ?_ | refine blk_alloc ?_ _)); refine blk_far ?_ NB171_187.out _; (with_reducible repeat (first | refine blk_drewN ?_ _ | refine blk_drew ?_ | refine blk_alloc ?_ _)); exact BK171.out⟩, ⟨by (with_reducible repeat (first | refine blk_drewN ?_ _ | refine blk_drew ?_ | refine blk_alloc ?_ _)); refine blk_far ?_ NB176_187.out _; (with_reducible repeat (first | refine blk_drewN ?_ _ | refine blk_drew ?_ | refine blk_alloc ?_ _)); refine blk_far ?_ NB176_187.out _; (with_reducible repeat (first | refine blk_drewN ?_ _ | refine blk_drew ?_ | refine blk_alloc ?_ _)); exact BK176.out⟩, ⟨by (with_reducible repeat (first | refine blk_drewN ?_ _ | refine blk_drew ?_ | refine blk_alloc ?_ _)); refine blk_far ?_ NB184_187.out _; (with_reducible repeat (first | refine blk_drewN ?_ _ | refine blk_drew ?_ | refine blk_alloc ?_ _)); refine blk_far ?_ NB184_187.out _; (with_reducible repeat (first | refine blk_drewN ?_ _ | refine blk_drew ?_ | refine blk_alloc ?_ _)); exact BK184.out⟩, ⟨by (with_reducible repeat (first | refine blk_drewN ?_ _ | refine blk_drew ?_ | refine blk_alloc ?_ _)); refine blk_put (cs := #[.int .i64 t185, .int .i64 0]) ?_ 1 _ rfl; (with_reducible repeat (first | refine blk_drewN ?_ _ | refine blk_drew ?_ | refine blk_alloc ?_ _)); refine blk_put (cs := #[.int .i64 0, .int .i64 0]) ?_ 0 _ rfl; (with_reducible repeat (first | refine blk_drewN ?_ _ | refine blk_drew ?_ | refine blk_alloc ?_ _)); exact BK187.out⟩, ⟨by repeat (first | (with_reducible first | exact HB.out | apply below_alloc | apply pw_below_drewN | apply below_drew1 | refine below_set ?_ GE169.out | refine below_set ?_ GE170.out | refine below_set ?_ GE171.out | refine below_set ?_ GE176.out | refine below_set ?_ GE184.out | refine below_set ?_ GE187.out) | exact HB.out)⟩⟩
        ·rw [if_neg c60] at H
         have c60b0 : ((wrap64 (t185 + t186)) == a0_0) = false := beq_eq_false_iff_ne.mpr c60
         have c60b1 : ((wrap64 (t185 + t186)) != a0_0) = true := bne_iff_ne.mpr c60
         have H' := Aside0.mk H
         clear H
         have hnb76 := NB184_169.out
         have hnc76 := NB169_184.out
         have hnb77 := NB184_170.out
         have hnc77 := NB170_184.out
         have hnb78 := NB184_171.out
         have hnc78 := NB171_184.out
         have hnb79 := NB184_176.out
         have hnc79 := NB176_184.out
         have hnb80 := NB184_187.out
         have hnc80 := NB187_184.out
         have hcz81_0 : w50.cell? ⟨gb184, 0, none⟩ = some (.int .i64 t182) := (blk_cell BK184.out 0).trans rfl
         have hcz81_1 : w50.cell? ⟨gb184, 1, none⟩ = some (.int .i64 t183) := (blk_cell BK184.out 1).trans rfl
         have hfz81_0 := blk_frozen BK184.out 0
         have hfz81_1 := blk_frozen BK184.out 1
         have hnb82 := NB187_169.out
         have hnc82 := NB169_187.out
         have hnb83 := NB187_170.out
         have hnc83 := NB170_187.out
         have hnb84 := NB187_171.out
         have hnc84 := NB171_187.out
         have hnb85 := NB187_176.out
         have hnc85 := NB176_187.out
         have hcz86_0 : w50.cell? ⟨gb187, 0, none⟩ = some (.int .i64 0) := (blk_cell BK187.out 0).trans rfl
         have hcz86_1 : w50.cell? ⟨gb187, 1, none⟩ = some (.int .i64 0) := (blk_cell BK187.out 1).trans rfl
         have hfz86_0 := blk_frozen BK187.out 0
         have hfz86_1 := blk_frozen BK187.out 1
         have hnb87 := NB169_170.out
         have hnc87 := NB170_169.out
         have hnb88 := NB169_171.out
         have hnc88 := NB171_169.out
         have hnb89 := NB169_176.out
         have hnc89 := NB176_169.out
         have hcz90_0 : w50.cell? ⟨gb169, 0, none⟩ = some (.int .i64 a0_0) := (blk_cell BK169.out 0).trans rfl
         have hcz90_1 : w50.cell? ⟨gb169, 1, none⟩ = some (.int .i64 a0_1) := (blk_cell BK169.out 1).trans rfl
         have hcz90_2 : w50.cell? ⟨gb169, 2, none⟩ = some (.int .i64 a0_2) := (blk_cell BK169.out 2).trans rfl
         have hfz90_0 := blk_frozen BK169.out 0
         have hfz90_1 := blk_frozen BK169.out 1
         have hfz90_2 := blk_frozen BK169.out 2
         go_wp2
         go_meet
         case rel => exact ⟨_, (true), (by first | rfl | (simp; done) | (simp [*]; done)), H', ⟨by have := HJ4.out; first | omega | exact Nat.le_refl _⟩, ⟨by (with_reducible repeat (first | refine blk_drewN ?_ _ | refine blk_drew ?_ | refine blk_alloc ?_ _)); refine blk_far ?_ NB169_187.out _; (with_reducible repeat (first | refine blk_drewN ?_ _ | refine blk_drew ?_ | refine blk_alloc ?_ _)); refine blk_far ?_ NB169_187.out _; (with_reducible repeat (first | refine blk_drewN ?_ _ | refine blk_drew ?_ | refine blk_alloc ?_ _)); exact BK169.out⟩, ⟨by (with_reducible repeat (first | refine blk_drewN ?_ _ | refine blk_drew ?_ | refine blk_alloc ?_ _)); refine blk_far ?_ NB170_187.out _; (with_reducible repeat (first | refine blk_drewN ?_ _ | refine blk_drew ?_ | refine blk_alloc ?_ _)); refine blk_far ?_ NB170_187.out _; (with_reducible repeat (first | refine blk_drewN ?_ _ | refine blk_drew ?_ | refine blk_alloc ?_ _)); exact BK170.out⟩, ⟨by (with_reducible repeat (first | refine blk_drewN ?_ _ | refine blk_drew ?_ | refine blk_alloc ?_ _)); refine blk_far ?_ NB171_187.out _; (with_reducible repeat (first | refine blk_drewN ?_ _ | refine blk_drew ?_ | refine blk_alloc ?_ _)); refine blk_far ?_ NB171_187.out _; (with_reducible repeat (first | refine blk_drewN ?_ _ | refine blk_drew ?_ | refine blk_alloc ?_ _)); exact BK171.out⟩, ⟨by (with_reducible repeat (first | refine blk_drewN ?_ _ | refine blk_drew ?_ | refine blk_alloc ?_ _)); refine blk_far ?_ NB176_187.out _; (with_reducible repeat (first | refine blk_drewN ?_ _ | refine blk_drew ?_ | refine blk_alloc ?_ _)); refine blk_far ?_ NB176_187.out _; (with_reducible repeat (first | refine blk_drewN ?_ _ | refine blk_drew ?_ | refine blk_alloc ?_ _)); exact BK176.out⟩, ⟨by (with_reducible repeat (first | refine blk_drewN ?_ _ | refine blk_drew ?_ | refine blk_alloc ?_ _)); refine blk_far ?_ NB184_187.out _; (with_reducible repeat (first | refine blk_drewN ?_ _ | refine blk_drew ?_ | refine blk_alloc ?_ _)); refine blk_far ?_ NB184_187.out _; (with_reducible repeat (first | refine blk_drewN ?_ _ | refine blk_drew ?_ | refine blk_alloc ?_ _)); exact BK184.out⟩, ⟨by (with_reducible repeat (first | refine blk_drewN ?_ _ | refine blk_drew ?_ | refine blk_alloc ?_ _)); refine blk_put (cs := #[.int .i64 t185, .int .i64 0]) ?_ 1 _ rfl; (with_reducible repeat (first | refine blk_drewN ?_ _ | refine blk_drew ?_ | refine blk_alloc ?_ _)); refine blk_put (cs := #[.int .i64 0, .int .i64 0]) ?_ 0 _ rfl; (with_reducible repeat (first | refine blk_drewN ?_ _ | refine blk_drew ?_ | refine blk_alloc ?_ _)); exact BK187.out⟩, ⟨by repeat (first | (with_reducible first | exact HB.out | apply below_alloc | apply pw_below_drewN | apply below_drew1 | refine below_set ?_ GE169.out | refine below_set ?_ GE170.out | refine below_set ?_ GE171.out | refine below_set ?_ GE176.out | refine below_set ?_ GE184.out | refine below_set ?_ GE187.out) | exact HB.out)⟩⟩
       ·rw [if_neg c59] at H
        have c59b0 : ((wrap64 (t182 + t183)) == t185) = false := beq_eq_false_iff_ne.mpr c59
        have c59b1 : ((wrap64 (t182 + t183)) != t185) = true := bne_iff_ne.mpr c59
        have H' := Aside0.mk H
        clear H
        have hnb91 := NB184_169.out
        have hnc91 := NB169_184.out
        have hnb92 := NB184_170.out
        have hnc92 := NB170_184.out
        have hnb93 := NB184_171.out
        have hnc93 := NB171_184.out
        have hnb94 := NB184_176.out
        have hnc94 := NB176_184.out
        have hnb95 := NB184_187.out
        have hnc95 := NB187_184.out
        have hcz96_0 : w50.cell? ⟨gb184, 0, none⟩ = some (.int .i64 t182) := (blk_cell BK184.out 0).trans rfl
        have hcz96_1 : w50.cell? ⟨gb184, 1, none⟩ = some (.int .i64 t183) := (blk_cell BK184.out 1).trans rfl
        have hfz96_0 := blk_frozen BK184.out 0
        have hfz96_1 := blk_frozen BK184.out 1
        have hnb97 := NB187_169.out
        have hnc97 := NB169_187.out
        have hnb98 := NB187_170.out
        have hnc98 := NB170_187.out
        have hnb99 := NB187_171.out
        have hnc99 := NB171_187.out
        have hnb100 := NB187_176.out
        have hnc100 := NB176_187.out
        have hcz101_0 : w50.cell? ⟨gb187, 0, none⟩ = some (.int .i64 0) := (blk_cell BK187.out 0).trans rfl
        have hcz101_1 : w50.cell? ⟨gb187, 1, none⟩ = some (.int .i64 0) := (blk_cell BK187.out 1).trans rfl
        have hfz101_0 := blk_frozen BK187.out 0
        have hfz101_1 := blk_frozen BK187.out 1
        go_wp2
        go_meet
        case rel => exact ⟨_, (true), (by first | rfl | (simp; done) | (simp [*]; done)), H', ⟨by have := HJ4.out; first | omega | exact Nat.le_refl _⟩, ⟨by (with_reducible repeat (first | refine blk_drewN ?_ _ | refine blk_drew ?_ | refine blk_alloc ?_ _)); refine blk_far ?_ NB169_187.out _; (with_reducible repeat (first | refine blk_drewN ?_ _ | refine blk_drew ?_ | refine blk_alloc ?_ _)); refine blk_far ?_ NB169_187.out _; (with_reducible repeat (first | refine blk_drewN ?_ _ | refine blk_drew ?_ | refine blk_alloc ?_ _)); exact BK169.out⟩, ⟨by (with_reducible repeat (first | refine blk_drewN ?_ _ | refine blk_drew ?_ | refine blk_alloc ?_ _)); refine blk_far ?_ NB170_187.out _; (with_reducible repeat (first | refine blk_drewN ?_ _ | refine blk_drew ?_ | refine blk_alloc ?_ _)); refine blk_far ?_ NB170_187.out _; (with_reducible repeat (first | refine blk_drewN ?_ _ | refine blk_drew ?_ | refine blk_alloc ?_ _)); exact BK170.out⟩, ⟨by (with_reducible repeat (first | refine blk_drewN ?_ _ | refine blk_drew ?_ | refine blk_alloc ?_ _)); refine blk_far ?_ NB171_187.out _; (with_reducible repeat (first | refine blk_drewN ?_ _ | refine blk_drew ?_ | refine blk_alloc ?_ _)); refine blk_far ?_ NB171_187.out _; (with_reducible repeat (first | refine blk_drewN ?_ _ | refine blk_drew ?_ | refine blk_alloc ?_ _)); exact BK171.out⟩, ⟨by (with_reducible repeat (first | refine blk_drewN ?_ _ | refine blk_drew ?_ | refine blk_alloc ?_ _)); refine blk_far ?_ NB176_187.out _; (with_reducible repeat (first | refine blk_drewN ?_ _ | refine blk_drew ?_ | refine blk_alloc ?_ _)); refine blk_far ?_ NB176_187.out _; (with_reducible repeat (first | refine blk_drewN ?_ _ | refine blk_drew ?_ | refine blk_alloc ?_ _)); exact BK176.out⟩, ⟨by (with_reducible repeat (first | refine blk_drewN ?_ _ | refine blk_drew ?_ | refine blk_alloc ?_ _)); refine blk_far ?_ NB184_187.out _; (with_reducible repeat (first | refine blk_drewN ?_ _ | refine blk_drew ?_ | refine blk_alloc ?_ _)); refine blk_far ?_ NB184_187.out _; (with_reducible repeat (first | refine blk_drewN ?_ _ | refine blk_drew ?_ | refine blk_alloc ?_ _)); exact BK184.out⟩, ⟨by (with_reducible repeat (first | refine blk_drewN ?_ _ | refine blk_drew ?_ | refine blk_alloc ?_ _)); refine blk_put (cs := #[.int .i64 t185, .int .i64 0]) ?_ 1 _ rfl; (with_reducible repeat (first | refine blk_drewN ?_ _ | refine blk_drew ?_ | refine blk_alloc ?_ _)); refine blk_put (cs := #[.int .i64 0, .int .i64 0]) ?_ 0 _ rfl; (with_reducible repeat (first | refine blk_drewN ?_ _ | refine blk_drew ?_ | refine blk_alloc ?_ _)); exact BK187.out⟩, ⟨by repeat (first | (with_reducible first | exact HB.out | apply below_alloc | apply pw_below_drewN | apply below_drew1 | refine below_set ?_ GE169.out | refine below_set ?_ GE170.out | refine below_set ?_ GE171.out | refine below_set ?_ GE176.out | refine below_set ?_ GE184.out | refine below_set ?_ GE187.out) | exact HB.out)⟩⟩
      ·rw [if_neg c58] at H
       have c58b0 : (t180 == (wrap64 (t182 - 1))) = false := beq_eq_false_iff_ne.mpr c58
       have c58b1 : (t180 != (wrap64 (t182 - 1))) = true := bne_iff_ne.mpr c58
       have H' := Aside0.mk H
       clear H
       have hnb102 := NB184_169.out
       have hnc102 := NB169_184.out
       have hnb103 := NB184_170.out
       have hnc103 := NB170_184.out
       have hnb104 := NB184_171.out
       have hnc104 := NB171_184.out
       have hnb105 := NB184_176.out
       have hnc105 := NB176_184.out
       have hnb106 := NB184_187.out
       have hnc106 := NB187_184.out
       have hcz107_0 : w50.cell? ⟨gb184, 0, none⟩ = some (.int .i64 t182) := (blk_cell BK184.out 0).trans rfl
       have hcz107_1 : w50.cell? ⟨gb184, 1, none⟩ = some (.int .i64 t183) := (blk_cell BK184.out 1).trans rfl
       have hfz107_0 := blk_frozen BK184.out 0
       have hfz107_1 := blk_frozen BK184.out 1
       go_wp2
       go_meet
       case rel => exact ⟨_, (true), (by first | rfl | (simp; done) | (simp [*]; done)), H', ⟨by have := HJ4.out; first | omega | exact Nat.le_refl _⟩, ⟨by (with_reducible repeat (first | refine blk_drewN ?_ _ | refine blk_drew ?_ | refine blk_alloc ?_ _)); refine blk_far ?_ NB169_187.out _; (with_reducible repeat (first | refine blk_drewN ?_ _ | refine blk_drew ?_ | refine blk_alloc ?_ _)); refine blk_far ?_ NB169_187.out _; (with_reducible repeat (first | refine blk_drewN ?_ _ | refine blk_drew ?_ | refine blk_alloc ?_ _)); exact BK169.out⟩, ⟨by (with_reducible repeat (first | refine blk_drewN ?_ _ | refine blk_drew ?_ | refine blk_alloc ?_ _)); refine blk_far ?_ NB170_187.out _; (with_reducible repeat (first | refine blk_drewN ?_ _ | refine blk_drew ?_ | refine blk_alloc ?_ _)); refine blk_far ?_ NB170_187.out _; (with_reducible repeat (first | refine blk_drewN ?_ _ | refine blk_drew ?_ | refine blk_alloc ?_ _)); exact BK170.out⟩, ⟨by (with_reducible repeat (first | refine blk_drewN ?_ _ | refine blk_drew ?_ | refine blk_alloc ?_ _)); refine blk_far ?_ NB171_187.out _; (with_reducible repeat (first | refine blk_drewN ?_ _ | refine blk_drew ?_ | refine blk_alloc ?_ _)); refine blk_far ?_ NB171_187.out _; (with_reducible repeat (first | refine blk_drewN ?_ _ | refine blk_drew ?_ | refine blk_alloc ?_ _)); exact BK171.out⟩, ⟨by (with_reducible repeat (first | refine blk_drewN ?_ _ | refine blk_drew ?_ | refine blk_alloc ?_ _)); refine blk_far ?_ NB176_187.out _; (with_reducible repeat (first | refine blk_drewN ?_ _ | refine blk_drew ?_ | refine blk_alloc ?_ _)); refine blk_far ?_ NB176_187.out _; (with_reducible repeat (first | refine blk_drewN ?_ _ | refine blk_drew ?_ | refine blk_alloc ?_ _)); exact BK176.out⟩, ⟨by (with_reducible repeat (first | refine blk_drewN ?_ _ | refine blk_drew ?_ | refine blk_alloc ?_ _)); refine blk_far ?_ NB184_187.out _; (with_reducible repeat (first | refine blk_drewN ?_ _ | refine blk_drew ?_ | refine blk_alloc ?_ _)); refine blk_far ?_ NB184_187.out _; (with_reducible repeat (first | refine blk_drewN ?_ _ | refine blk_drew ?_ | refine blk_alloc ?_ _)); exact BK184.out⟩, ⟨by (with_reducible repeat (first | refine blk_drewN ?_ _ | refine blk_drew ?_ | refine blk_alloc ?_ _)); refine blk_put (cs := #[.int .i64 t185, .int .i64 0]) ?_ 1 _ rfl; (with_reducible repeat (first | refine blk_drewN ?_ _ | refine blk_drew ?_ | refine blk_alloc ?_ _)); refine blk_put (cs := #[.int .i64 0, .int .i64 0]) ?_ 0 _ rfl; (with_reducible repeat (first | refine blk_drewN ?_ _ | refine blk_drew ?_ | refine blk_alloc ?_ _)); exact BK187.out⟩, ⟨by repeat (first | (with_reducible first | exact HB.out | apply below_alloc | apply pw_below_drewN | apply below_drew1 | refine below_set ?_ GE169.out | refine below_set ?_ GE170.out | refine below_set ?_ GE171.out | refine below_set ?_ GE176.out | refine below_set ?_ GE184.out | refine below_set ?_ GE187.out) | exact HB.out)⟩⟩
     ·rw [if_neg c57] at H
      have c57b0 : (t178 == 1) = false := beq_eq_false_iff_ne.mpr c57
      have c57b1 : (t178 != 1) = true := bne_iff_ne.mpr c57
      (first | rw [c57b0] | (simp only [i64_w, i32_w]; rw [c57b0]) | skip)
      have H' := Aside0.mk H
      clear H
      go_wp2
      go_meet
      case rel => exact ⟨_, (true), (by first | rfl | (simp; done) | (simp [*]; done)), H', ⟨by have := HJ4.out; first | omega | exact Nat.le_refl _⟩, ⟨by (with_reducible repeat (first | refine blk_drewN ?_ _ | refine blk_drew ?_ | refine blk_alloc ?_ _)); refine blk_far ?_ NB169_187.out _; (with_reducible repeat (first | refine blk_drewN ?_ _ | refine blk_drew ?_ | refine blk_alloc ?_ _)); refine blk_far ?_ NB169_187.out _; (with_reducible repeat (first | refine blk_drewN ?_ _ | refine blk_drew ?_ | refine blk_alloc ?_ _)); exact BK169.out⟩, ⟨by (with_reducible repeat (first | refine blk_drewN ?_ _ | refine blk_drew ?_ | refine blk_alloc ?_ _)); refine blk_far ?_ NB170_187.out _; (with_reducible repeat (first | refine blk_drewN ?_ _ | refine blk_drew ?_ | refine blk_alloc ?_ _)); refine blk_far ?_ NB170_187.out _; (with_reducible repeat (first | refine blk_drewN ?_ _ | refine blk_drew ?_ | refine blk_alloc ?_ _)); exact BK170.out⟩, ⟨by (with_reducible repeat (first | refine blk_drewN ?_ _ | refine blk_drew ?_ | refine blk_alloc ?_ _)); refine blk_far ?_ NB171_187.out _; (with_reducible repeat (first | refine blk_drewN ?_ _ | refine blk_drew ?_ | refine blk_alloc ?_ _)); refine blk_far ?_ NB171_187.out _; (with_reducible repeat (first | refine blk_drewN ?_ _ | refine blk_drew ?_ | refine blk_alloc ?_ _)); exact BK171.out⟩, ⟨by (with_reducible repeat (first | refine blk_drewN ?_ _ | refine blk_drew ?_ | refine blk_alloc ?_ _)); refine blk_far ?_ NB176_187.out _; (with_reducible repeat (first | refine blk_drewN ?_ _ | refine blk_drew ?_ | refine blk_alloc ?_ _)); refine blk_far ?_ NB176_187.out _; (with_reducible repeat (first | refine blk_drewN ?_ _ | refine blk_drew ?_ | refine blk_alloc ?_ _)); exact BK176.out⟩, ⟨by (with_reducible repeat (first | refine blk_drewN ?_ _ | refine blk_drew ?_ | refine blk_alloc ?_ _)); refine blk_far ?_ NB184_187.out _; (with_reducible repeat (first | refine blk_drewN ?_ _ | refine blk_drew ?_ | refine blk_alloc ?_ _)); refine blk_far ?_ NB184_187.out _; (with_reducible repeat (first | refine blk_drewN ?_ _ | refine blk_drew ?_ | refine blk_alloc ?_ _)); exact BK184.out⟩, ⟨by (with_reducible repeat (first | refine blk_drewN ?_ _ | refine blk_drew ?_ | refine blk_alloc ?_ _)); refine blk_put (cs := #[.int .i64 t185, .int .i64 0]) ?_ 1 _ rfl; (with_reducible repeat (first | refine blk_drewN ?_ _ | refine blk_drew ?_ | refine blk_alloc ?_ _)); refine blk_put (cs := #[.int .i64 0, .int .i64 0]) ?_ 0 _ rfl; (with_reducible repeat (first | refine blk_drewN ?_ _ | refine blk_drew ?_ | refine blk_alloc ?_ _)); exact BK187.out⟩, ⟨by repeat (first | (with_reducible first | exact HB.out | apply below_alloc | apply pw_below_drewN | apply below_drew1 | refine below_set ?_ GE169.out | refine below_set ?_ GE170.out | refine below_set ?_ GE171.out | refine below_set ?_ GE176.out | refine below_set ?_ GE184.out | refine below_set ?_ GE187.out) | exact HB.out)⟩⟩
    case rest => as_aux_lemma =>
     clear HC32
     try clear c1
     try clear c2
     try clear p2
     try clear c3
     try clear c4
     try clear c5
     try clear c6
     try clear p6
     try clear c7
     try clear c8
     try clear c9
     try clear c10
     try clear c12
     try clear c16
     try clear c17
     try clear c18
     try clear c20
     try clear c20b0
     try clear c20b1
     try clear c21
     try clear c22
     try clear c23
     try clear c25
     try clear c26
     try clear c28
     try clear c29
     try clear c31
     try clear c32
     try clear c33
     try clear c34
     try clear c35
     try clear c43
     try clear c44
     try clear c45
     try clear c46
     try clear c51
     try clear c52
     try clear c53
     try clear c54
     try clear c55
     try clear c57
     try clear c57b0
     try clear c57b1
     try clear c58
     try clear c58b0
     try clear c58b1
     try clear c59
     try clear c59b0
     try clear c59b1
     try clear c60
     try clear c60b0
     try clear c60b1
     try clear c61
     try clear c62
     try clear c63
     try clear c64
     try clear p64
     try clear c65
     try clear c67
     try clear c68
     try clear c69
     try clear c70
     try clear c72
     try clear c73
     try clear c74
     try clear c76
     try clear c77
     try clear c78
     try clear c79
     try clear c80
     try clear c82
     try clear c83
     try clear c84
     try clear c85
     try clear c87
     try clear c88
     try clear c89
     try clear c91
     try clear c92
     try clear c93
     try clear c94
     try clear c95
     try clear c97
     try clear c98
     try clear c99
     try clear c100
     try clear c102
     try clear c103
     try clear c104
     try clear c105
     try clear c106
     try clear hcz101_0
     try clear hcz101_1
     try clear hcz107_0
     try clear hcz107_1
     try clear hcz11_0
     try clear hcz11_1
     try clear hcz13_0
     try clear hcz13_1
     try clear hcz13_2
     try clear hcz19_0
     try clear hcz19_1
     try clear hcz19_2
     try clear hcz24_0
     try clear hcz24_1
     try clear hcz36_0
     try clear hcz36_1
     try clear hcz36_2
     try clear hcz38_0
     try clear hcz38_1
     try clear hcz38_2
     try clear hcz40_0
     try clear hcz40_1
     try clear hcz40_2
     try clear hcz47_0
     try clear hcz47_1
     try clear hcz48_0
     try clear hcz48_1
     try clear hcz48_2
     try clear hcz56_0
     try clear hcz56_1
     try clear hcz66_0
     try clear hcz66_1
     try clear hcz71_0
     try clear hcz71_1
     try clear hcz75_0
     try clear hcz75_1
     try clear hcz75_2
     try clear hcz81_0
     try clear hcz81_1
     try clear hcz86_0
     try clear hcz86_1
     try clear hcz90_0
     try clear hcz90_1
     try clear hcz90_2
     try clear hcz96_0
     try clear hcz96_1
     try clear hfz101_0
     try clear hfz101_1
     try clear hfz107_0
     try clear hfz107_1
     try clear hfz11_0
     try clear hfz11_1
     try clear hfz13_0
     try clear hfz13_1
     try clear hfz13_2
     try clear hfz19_0
     try clear hfz19_1
     try clear hfz19_2
     try clear hfz24_0
     try clear hfz24_1
     try clear hfz36_0
     try clear hfz36_1
     try clear hfz36_2
     try clear hfz38_0
     try clear hfz38_1
     try clear hfz38_2
     try clear hfz40_0
     try clear hfz40_1
     try clear hfz40_2
     try clear hfz47_0
     try clear hfz47_1
     try clear hfz48_0
     try clear hfz48_1
     try clear hfz48_2
     try clear hfz56_0
     try clear hfz56_1
     try clear hfz66_0
     try clear hfz66_1
     try clear hfz71_0
     try clear hfz71_1
     try clear hfz75_0
     try clear hfz75_1
     try clear hfz75_2
     try clear hfz81_0
     try clear hfz81_1
     try clear hfz86_0
     try clear hfz86_1
     try clear hfz90_0
     try clear hfz90_1
     try clear hfz90_2
     try clear hfz96_0
     try clear hfz96_1
     try clear p2
     obtain ⟨kq, x88_31, rfl, HA, HJ31, BK169, BK170, BK171, BK176, BK184, BK187, HB⟩ := hcut
     cases kq with
     | zero => exact absurd HA.out (by simp [oakumlaw10_LayoutApart.j1])
     | succ kj31 =>
      have H := HA.out
      clear HA
      simp only [oakumlaw10_LayoutApart.j1] at H
      by_cases c108 : x88_31 = true
      ·subst c108
       have H1 : (some false) = some r := by rw [if_pos rfl] at H; exact H
       clear H
       have H := H1
       clear H1
       exact absurd ((Option.some.inj H).trans hrt.out) (by decide)
      ·replace c108 := Bool.eq_false_iff.mpr c108
       subst c108
       have H1 : ((layout_Layout_Page.f kj31 t172 t173 t174 a1_0 a1_1 a2_0).bind fun bt188 => ((layout_Layout_Chunk.f kj31 t172 t173 t174 a1_0 a1_1 a2_0).bind fun bt190 => ((layout_Layout_Chunk.f kj31 t172 t173 t174 a1_0 a1_1 a2_1).bind fun bt194 => (if bt188.2 = 0 then (if bt188.1 ≤ a1_0 then (oakumlaw10_LayoutApart.j2 kj31 a2_0 a2_1 bt190.2.2 bt194.2.2 true a1_0 a1_1 bt190.1 bt190.2.1 bt194.1 bt194.2.1) else (if bt188.1 ≥ (wrap64 (a1_0 + a1_1)) then (oakumlaw10_LayoutApart.j2 kj31 a2_0 a2_1 bt190.2.2 bt194.2.2 true a1_0 a1_1 bt190.1 bt190.2.1 bt194.1 bt194.2.1) else (if bt190.2.2 = 0 then ((oakumlaw10_apart.f bt188.1 1 bt190.1 bt190.2.1).bind fun t199 => (if t199 = true then (if bt194.2.2 = 0 then ((oakumlaw10_apart.f bt188.1 1 bt194.1 bt194.2.1).bind fun t200 => (oakumlaw10_LayoutApart.j2 kj31 a2_0 a2_1 bt190.2.2 bt194.2.2 (!t200) a1_0 a1_1 bt190.1 bt190.2.1 bt194.1 bt194.2.1)) else (oakumlaw10_LayoutApart.j2 kj31 a2_0 a2_1 bt190.2.2 bt194.2.2 false a1_0 a1_1 bt190.1 bt190.2.1 bt194.1 bt194.2.1)) else (oakumlaw10_LayoutApart.j2 kj31 a2_0 a2_1 bt190.2.2 bt194.2.2 true a1_0 a1_1 bt190.1 bt190.2.1 bt194.1 bt194.2.1))) else (if bt194.2.2 = 0 then ((oakumlaw10_apart.f bt188.1 1 bt194.1 bt194.2.1).bind fun t201 => (oakumlaw10_LayoutApart.j2 kj31 a2_0 a2_1 bt190.2.2 bt194.2.2 (!t201) a1_0 a1_1 bt190.1 bt190.2.1 bt194.1 bt194.2.1)) else (oakumlaw10_LayoutApart.j2 kj31 a2_0 a2_1 bt190.2.2 bt194.2.2 false a1_0 a1_1 bt190.1 bt190.2.1 bt194.1 bt194.2.1))))) else (oakumlaw10_LayoutApart.j2 kj31 a2_0 a2_1 bt190.2.2 bt194.2.2 false a1_0 a1_1 bt190.1 bt190.2.1 bt194.1 bt194.2.1))))) = some r := by rw [if_neg (show ¬ (false = true) by decide)] at H; exact H
       clear H
       have H := H1
       clear H1
       replace H := Option.bind_eq_some_iff.mp H
       obtain ⟨⟨t188, t189⟩, A1090, H⟩ := H
       replace H : ((layout_Layout_Chunk.f kj31 t172 t173 t174 a1_0 a1_1 a2_0).bind fun bt190 => ((layout_Layout_Chunk.f kj31 t172 t173 t174 a1_0 a1_1 a2_1).bind fun bt194 => (if t189 = 0 then (if t188 ≤ a1_0 then (oakumlaw10_LayoutApart.j2 kj31 a2_0 a2_1 bt190.2.2 bt194.2.2 true a1_0 a1_1 bt190.1 bt190.2.1 bt194.1 bt194.2.1) else (if t188 ≥ (wrap64 (a1_0 + a1_1)) then (oakumlaw10_LayoutApart.j2 kj31 a2_0 a2_1 bt190.2.2 bt194.2.2 true a1_0 a1_1 bt190.1 bt190.2.1 bt194.1 bt194.2.1) else (if bt190.2.2 = 0 then ((oakumlaw10_apart.f t188 1 bt190.1 bt190.2.1).bind fun t199 => (if t199 = true then (if bt194.2.2 = 0 then ((oakumlaw10_apart.f t188 1 bt194.1 bt194.2.1).bind fun t200 => (oakumlaw10_LayoutApart.j2 kj31 a2_0 a2_1 bt190.2.2 bt194.2.2 (!t200) a1_0 a1_1 bt190.1 bt190.2.1 bt194.1 bt194.2.1)) else (oakumlaw10_LayoutApart.j2 kj31 a2_0 a2_1 bt190.2.2 bt194.2.2 false a1_0 a1_1 bt190.1 bt190.2.1 bt194.1 bt194.2.1)) else (oakumlaw10_LayoutApart.j2 kj31 a2_0 a2_1 bt190.2.2 bt194.2.2 true a1_0 a1_1 bt190.1 bt190.2.1 bt194.1 bt194.2.1))) else (if bt194.2.2 = 0 then ((oakumlaw10_apart.f t188 1 bt194.1 bt194.2.1).bind fun t201 => (oakumlaw10_LayoutApart.j2 kj31 a2_0 a2_1 bt190.2.2 bt194.2.2 (!t201) a1_0 a1_1 bt190.1 bt190.2.1 bt194.1 bt194.2.1)) else (oakumlaw10_LayoutApart.j2 kj31 a2_0 a2_1 bt190.2.2 bt194.2.2 false a1_0 a1_1 bt190.1 bt190.2.1 bt194.1 bt194.2.1))))) else (oakumlaw10_LayoutApart.j2 kj31 a2_0 a2_1 bt190.2.2 bt194.2.2 false a1_0 a1_1 bt190.1 bt190.2.1 bt194.1 bt194.2.1)))) = some r := H
       have A109 := Aside0.mk A1090
       clear A1090
       replace H := Option.bind_eq_some_iff.mp H
       obtain ⟨⟨t190, t191, t192⟩, A1100, H⟩ := H
       replace H : ((layout_Layout_Chunk.f kj31 t172 t173 t174 a1_0 a1_1 a2_1).bind fun bt194 => (if t189 = 0 then (if t188 ≤ a1_0 then (oakumlaw10_LayoutApart.j2 kj31 a2_0 a2_1 t192 bt194.2.2 true a1_0 a1_1 t190 t191 bt194.1 bt194.2.1) else (if t188 ≥ (wrap64 (a1_0 + a1_1)) then (oakumlaw10_LayoutApart.j2 kj31 a2_0 a2_1 t192 bt194.2.2 true a1_0 a1_1 t190 t191 bt194.1 bt194.2.1) else (if t192 = 0 then ((oakumlaw10_apart.f t188 1 t190 t191).bind fun t199 => (if t199 = true then (if bt194.2.2 = 0 then ((oakumlaw10_apart.f t188 1 bt194.1 bt194.2.1).bind fun t200 => (oakumlaw10_LayoutApart.j2 kj31 a2_0 a2_1 t192 bt194.2.2 (!t200) a1_0 a1_1 t190 t191 bt194.1 bt194.2.1)) else (oakumlaw10_LayoutApart.j2 kj31 a2_0 a2_1 t192 bt194.2.2 false a1_0 a1_1 t190 t191 bt194.1 bt194.2.1)) else (oakumlaw10_LayoutApart.j2 kj31 a2_0 a2_1 t192 bt194.2.2 true a1_0 a1_1 t190 t191 bt194.1 bt194.2.1))) else (if bt194.2.2 = 0 then ((oakumlaw10_apart.f t188 1 bt194.1 bt194.2.1).bind fun t201 => (oakumlaw10_LayoutApart.j2 kj31 a2_0 a2_1 t192 bt194.2.2 (!t201) a1_0 a1_1 t190 t191 bt194.1 bt194.2.1)) else (oakumlaw10_LayoutApart.j2 kj31 a2_0 a2_1 t192 bt194.2.2 false a1_0 a1_1 t190 t191 bt194.1 bt194.2.1))))) else (oakumlaw10_LayoutApart.j2 kj31 a2_0 a2_1 t192 bt194.2.2 false a1_0 a1_1 t190 t191 bt194.1 bt194.2.1))) = some r := H
       have A110 := Aside0.mk A1100
       clear A1100
       replace H := Option.bind_eq_some_iff.mp H
       obtain ⟨⟨t194, t195, t196⟩, A1110, H⟩ := H
       replace H : (if t189 = 0 then (if t188 ≤ a1_0 then (oakumlaw10_LayoutApart.j2 kj31 a2_0 a2_1 t192 t196 true a1_0 a1_1 t190 t191 t194 t195) else (if t188 ≥ (wrap64 (a1_0 + a1_1)) then (oakumlaw10_LayoutApart.j2 kj31 a2_0 a2_1 t192 t196 true a1_0 a1_1 t190 t191 t194 t195) else (if t192 = 0 then ((oakumlaw10_apart.f t188 1 t190 t191).bind fun t199 => (if t199 = true then (if t196 = 0 then ((oakumlaw10_apart.f t188 1 t194 t195).bind fun t200 => (oakumlaw10_LayoutApart.j2 kj31 a2_0 a2_1 t192 t196 (!t200) a1_0 a1_1 t190 t191 t194 t195)) else (oakumlaw10_LayoutApart.j2 kj31 a2_0 a2_1 t192 t196 false a1_0 a1_1 t190 t191 t194 t195)) else (oakumlaw10_LayoutApart.j2 kj31 a2_0 a2_1 t192 t196 true a1_0 a1_1 t190 t191 t194 t195))) else (if t196 = 0 then ((oakumlaw10_apart.f t188 1 t194 t195).bind fun t201 => (oakumlaw10_LayoutApart.j2 kj31 a2_0 a2_1 t192 t196 (!t201) a1_0 a1_1 t190 t191 t194 t195)) else (oakumlaw10_LayoutApart.j2 kj31 a2_0 a2_1 t192 t196 false a1_0 a1_1 t190 t191 t194 t195))))) else (oakumlaw10_LayoutApart.j2 kj31 a2_0 a2_1 t192 t196 false a1_0 a1_1 t190 t191 t194 t195)) = some r := H
       have A111 := Aside0.mk A1110
       clear A1110
       have HC112 := Aside0.mk H
       clear H
       have hnb113 := NB176_169.out
       have hnc113 := NB169_176.out
       have hnb114 := NB176_170.out
       have hnc114 := NB170_176.out
       have hnb115 := NB176_171.out
       have hnc115 := NB171_176.out
       have hnb116 := NB176_184.out
       have hnc116 := NB184_176.out
       have hnb117 := NB176_187.out
       have hnc117 := NB187_176.out
       have hcz118_0 : wc.cell? ⟨gb176, 0, none⟩ = some (.int .i64 t172) := (blk_cell BK176.out 0).trans rfl
       have hcz118_1 : wc.cell? ⟨gb176, 1, none⟩ = some (.int .i64 t173) := (blk_cell BK176.out 1).trans rfl
       have hcz118_2 : wc.cell? ⟨gb176, 2, none⟩ = some (.int .i64 t174) := (blk_cell BK176.out 2).trans rfl
       have hfz118_0 := blk_frozen BK176.out 0
       have hfz118_1 := blk_frozen BK176.out 1
       have hfz118_2 := blk_frozen BK176.out 2
       have hnb119 := NB170_169.out
       have hnc119 := NB169_170.out
       have hnb120 := NB170_171.out
       have hnc120 := NB171_170.out
       have hnb121 := NB170_184.out
       have hnc121 := NB184_170.out
       have hnb122 := NB170_187.out
       have hnc122 := NB187_170.out
       have hcz123_0 : wc.cell? ⟨gb170, 0, none⟩ = some (.int .i64 a1_0) := (blk_cell BK170.out 0).trans rfl
       have hcz123_1 : wc.cell? ⟨gb170, 1, none⟩ = some (.int .i64 a1_1) := (blk_cell BK170.out 1).trans rfl
       have hfz123_0 := blk_frozen BK170.out 0
       have hfz123_1 := blk_frozen BK170.out 1
       go_upto_region 16 with (first | ((with_reducible refine gate_callee (f := 34) rfl ?_); refine goesL_ (some 93) rfl rfl Try.func34 (by kernel_rfl) rfl #[.agg #[.int .i64 t172, .int .i64 t173, .int .i64 t174], .agg #[.int .i64 a1_0, .int .i64 a1_1], .int .i64 a2_0] rfl (by (try simp only [List.map_toArray, List.map_cons, List.map_nil]); first | done | rfl | (simp only [List.length_drop, List.length_take]; rfl)) ?_; (with_reducible refine (layout_Layout_Page.calls kj31 t172 t173 t174 a1_0 a1_1 a2_0 t188 t189 _ A109.out).mono ?_); rintro e w124 ⟨rfl, hb⟩; refine ⟨_, rfl, ?_⟩; have n0_ := Aside0.mk (blk_below (g := gb169) (o := .cells #[.int .i64 a0_0, .int .i64 a0_1, .int .i64 a0_2] 49 (0, 0)) (by (with_reducible repeat (first | refine blk_drewN ?_ _ | refine blk_drew ?_ | refine blk_alloc ?_ _)); exact BK169.out) hb); have n1_ := Aside0.mk (blk_below (g := gb170) (o := .cells #[.int .i64 a1_0, .int .i64 a1_1] 25 (0, 0)) (by (with_reducible repeat (first | refine blk_drewN ?_ _ | refine blk_drew ?_ | refine blk_alloc ?_ _)); exact BK170.out) hb); have n2_ := Aside0.mk (blk_below (g := gb171) (o := .cells #[.int .i64 a2_0, .int .i64 a2_1] 59 (0, 0)) (by (with_reducible repeat (first | refine blk_drewN ?_ _ | refine blk_drew ?_ | refine blk_alloc ?_ _)); exact BK171.out) hb); have n3_ := Aside0.mk (blk_below (g := gb176) (o := .cells #[.int .i64 t172, .int .i64 t173, .int .i64 t174] 51 (0, 0)) (by (with_reducible repeat (first | refine blk_drewN ?_ _ | refine blk_drew ?_ | refine blk_alloc ?_ _)); exact BK176.out) hb); have n4_ := Aside0.mk (blk_below (g := gb184) (o := .cells #[.int .i64 t182, .int .i64 t183] 25 (0, 0)) (by (with_reducible repeat (first | refine blk_drewN ?_ _ | refine blk_drew ?_ | refine blk_alloc ?_ _)); exact BK184.out) hb); have n5_ := Aside0.mk (blk_below (g := gb187) (o := .cells #[.int .i64 t185, .int .i64 t186] 25 (0, 0)) (by (with_reducible repeat (first | refine blk_drewN ?_ _ | refine blk_drew ?_ | refine blk_alloc ?_ _)); exact BK187.out) hb); have n6_ := Aside0.mk (below_step (by repeat (first | (with_reducible first | exact HB.out | apply below_alloc | apply pw_below_drewN | apply below_drew1 | refine below_set ?_ GE169.out | refine below_set ?_ GE170.out | refine below_set ?_ GE171.out | refine below_set ?_ GE176.out | refine below_set ?_ GE184.out | refine below_set ?_ GE187.out) | exact HB.out)) hb); clear BK169; clear BK170; clear BK171; clear BK176; clear BK184; clear BK187; clear HB; have BK169 := n0_; have BK170 := n1_; have BK171 := n2_; have BK176 := n3_; have BK184 := n4_; have BK187 := n5_; have HB := n6_; clear n0_ n1_ n2_ n3_ n4_ n5_ n6_; (try clear hb); (try clear hb2); (try clear hk); (try clear hi); have hcz125_0 : w124.cell? ⟨gb176, 0, none⟩ = some (.int .i64 t172) := (blk_cell BK176.out 0).trans rfl; have hcz125_1 : w124.cell? ⟨gb176, 1, none⟩ = some (.int .i64 t173) := (blk_cell BK176.out 1).trans rfl; have hcz125_2 : w124.cell? ⟨gb176, 2, none⟩ = some (.int .i64 t174) := (blk_cell BK176.out 2).trans rfl; have hfz125_0 := blk_frozen BK176.out 0; have hfz125_1 := blk_frozen BK176.out 1; have hfz125_2 := blk_frozen BK176.out 2; have hcz126_0 : w124.cell? ⟨gb170, 0, none⟩ = some (.int .i64 a1_0) := (blk_cell BK170.out 0).trans rfl; have hcz126_1 : w124.cell? ⟨gb170, 1, none⟩ = some (.int .i64 a1_1) := (blk_cell BK170.out 1).trans rfl; have hfz126_0 := blk_frozen BK170.out 0; have hfz126_1 := blk_frozen BK170.out 1) | ((with_reducible refine gate_callee (f := 35) rfl ?_); refine goesL_ (some 100) rfl rfl Try.func35 (by kernel_rfl) rfl #[.agg #[.int .i64 t172, .int .i64 t173, .int .i64 t174], .agg #[.int .i64 a1_0, .int .i64 a1_1], .int .i64 a2_0] rfl (by (try simp only [List.map_toArray, List.map_cons, List.map_nil]); first | done | rfl | (simp only [List.length_drop, List.length_take]; rfl)) ?_; (with_reducible refine (layout_Layout_Chunk.calls kj31 t172 t173 t174 a1_0 a1_1 a2_0 t190 t191 t192 _ A110.out).mono ?_); rintro e w127 ⟨rfl, hb⟩; refine ⟨_, rfl, ?_⟩; have n0_ := Aside0.mk (blk_below (g := gb169) (o := .cells #[.int .i64 a0_0, .int .i64 a0_1, .int .i64 a0_2] 49 (0, 0)) (by (with_reducible repeat (first | refine blk_drewN ?_ _ | refine blk_drew ?_ | refine blk_alloc ?_ _)); exact BK169.out) hb); have n1_ := Aside0.mk (blk_below (g := gb170) (o := .cells #[.int .i64 a1_0, .int .i64 a1_1] 25 (0, 0)) (by (with_reducible repeat (first | refine blk_drewN ?_ _ | refine blk_drew ?_ | refine blk_alloc ?_ _)); exact BK170.out) hb); have n2_ := Aside0.mk (blk_below (g := gb171) (o := .cells #[.int .i64 a2_0, .int .i64 a2_1] 59 (0, 0)) (by (with_reducible repeat (first | refine blk_drewN ?_ _ | refine blk_drew ?_ | refine blk_alloc ?_ _)); exact BK171.out) hb); have n3_ := Aside0.mk (blk_below (g := gb176) (o := .cells #[.int .i64 t172, .int .i64 t173, .int .i64 t174] 51 (0, 0)) (by (with_reducible repeat (first | refine blk_drewN ?_ _ | refine blk_drew ?_ | refine blk_alloc ?_ _)); exact BK176.out) hb); have n4_ := Aside0.mk (blk_below (g := gb184) (o := .cells #[.int .i64 t182, .int .i64 t183] 25 (0, 0)) (by (with_reducible repeat (first | refine blk_drewN ?_ _ | refine blk_drew ?_ | refine blk_alloc ?_ _)); exact BK184.out) hb); have n5_ := Aside0.mk (blk_below (g := gb187) (o := .cells #[.int .i64 t185, .int .i64 t186] 25 (0, 0)) (by (with_reducible repeat (first | refine blk_drewN ?_ _ | refine blk_drew ?_ | refine blk_alloc ?_ _)); exact BK187.out) hb); have n6_ := Aside0.mk (below_step (by repeat (first | (with_reducible first | exact HB.out | apply below_alloc | apply pw_below_drewN | apply below_drew1 | refine below_set ?_ GE169.out | refine below_set ?_ GE170.out | refine below_set ?_ GE171.out | refine below_set ?_ GE176.out | refine below_set ?_ GE184.out | refine below_set ?_ GE187.out) | exact HB.out)) hb); clear BK169; clear BK170; clear BK171; clear BK176; clear BK184; clear BK187; clear HB; have BK169 := n0_; have BK170 := n1_; have BK171 := n2_; have BK176 := n3_; have BK184 := n4_; have BK187 := n5_; have HB := n6_; clear n0_ n1_ n2_ n3_ n4_ n5_ n6_; (try clear hb); (try clear hb2); (try clear hk); (try clear hi)) | ((with_reducible refine gate_dst (N := 19) rfl ?_); refine box_event ?hg (N := 19) ?hd (cs := #[.int .i64 0, .int .i64 0]) (t := 25) ?hr ?_; (case hd => rfl); (case hg => rfl); (case hr => first | (go_simp; done) | (go_simp; rfl)); intro gb193 hg w128 hbox hb; have n0_ := Aside0.mk (blk_below (g := gb169) (o := .cells #[.int .i64 a0_0, .int .i64 a0_1, .int .i64 a0_2] 49 (0, 0)) (by (with_reducible repeat (first | refine blk_drewN ?_ _ | refine blk_drew ?_ | refine blk_alloc ?_ _)); exact BK169.out) hb); have n1_ := Aside0.mk (blk_below (g := gb170) (o := .cells #[.int .i64 a1_0, .int .i64 a1_1] 25 (0, 0)) (by (with_reducible repeat (first | refine blk_drewN ?_ _ | refine blk_drew ?_ | refine blk_alloc ?_ _)); exact BK170.out) hb); have n2_ := Aside0.mk (blk_below (g := gb171) (o := .cells #[.int .i64 a2_0, .int .i64 a2_1] 59 (0, 0)) (by (with_reducible repeat (first | refine blk_drewN ?_ _ | refine blk_drew ?_ | refine blk_alloc ?_ _)); exact BK171.out) hb); have n3_ := Aside0.mk (blk_below (g := gb176) (o := .cells #[.int .i64 t172, .int .i64 t173, .int .i64 t174] 51 (0, 0)) (by (with_reducible repeat (first | refine blk_drewN ?_ _ | refine blk_drew ?_ | refine blk_alloc ?_ _)); exact BK176.out) hb); have n4_ := Aside0.mk (blk_below (g := gb184) (o := .cells #[.int .i64 t182, .int .i64 t183] 25 (0, 0)) (by (with_reducible repeat (first | refine blk_drewN ?_ _ | refine blk_drew ?_ | refine blk_alloc ?_ _)); exact BK184.out) hb); have n5_ := Aside0.mk (blk_below (g := gb187) (o := .cells #[.int .i64 t185, .int .i64 t186] 25 (0, 0)) (by (with_reducible repeat (first | refine blk_drewN ?_ _ | refine blk_drew ?_ | refine blk_alloc ?_ _)); exact BK187.out) hb); have n6_ := Aside0.mk (below_step (by repeat (first | (with_reducible first | exact HB.out | apply below_alloc | apply pw_below_drewN | apply below_drew1 | refine below_set ?_ GE169.out | refine below_set ?_ GE170.out | refine below_set ?_ GE171.out | refine below_set ?_ GE176.out | refine below_set ?_ GE184.out | refine below_set ?_ GE187.out) | exact HB.out)) hb); have n7_ := Aside0.mk (hbox); have n8_ := Aside0.mk ((by rw [hg]; exact (below_size (by repeat (first | (with_reducible first | exact HB.out | apply below_alloc | apply pw_below_drewN | apply below_drew1 | refine below_set ?_ GE169.out | refine below_set ?_ GE170.out | refine below_set ?_ GE171.out | refine below_set ?_ GE176.out | refine below_set ?_ GE184.out | refine below_set ?_ GE187.out) | exact HB.out))) : w.heap.size ≤ gb193)); have n9_ := Aside0.mk ((by rw [hg]; exact (below_size (by repeat (first | (with_reducible first | exact HB.out | apply below_alloc | apply pw_below_drewN | apply below_drew1 | refine below_set ?_ GE169.out | refine below_set ?_ GE170.out | refine below_set ?_ GE171.out | refine below_set ?_ GE176.out | refine below_set ?_ GE184.out | refine below_set ?_ GE187.out) | exact HB.out))) : w.heap.size ≤ gb193)); have n10_ := Aside0.mk ((by rw [hg]; exact Nat.ne_of_lt (blk_lt (g := gb169) (o := .cells #[.int .i64 a0_0, .int .i64 a0_1, .int .i64 a0_2] 49 (0, 0)) (by (with_reducible repeat (first | refine blk_drewN ?_ _ | refine blk_drew ?_ | refine blk_alloc ?_ _)); exact BK169.out)) : gb169 ≠ gb193)); have n11_ := Aside0.mk ((by rw [hg]; exact Nat.ne_of_gt (blk_lt (g := gb169) (o := .cells #[.int .i64 a0_0, .int .i64 a0_1, .int .i64 a0_2] 49 (0, 0)) (by (with_reducible repeat (first | refine blk_drewN ?_ _ | refine blk_drew ?_ | refine blk_alloc ?_ _)); exact BK169.out)) : gb193 ≠ gb169)); have n12_ := Aside0.mk ((by rw [hg]; exact Nat.ne_of_lt (blk_lt (g := gb170) (o := .cells #[.int .i64 a1_0, .int .i64 a1_1] 25 (0, 0)) (by (with_reducible repeat (first | refine blk_drewN ?_ _ | refine blk_drew ?_ | refine blk_alloc ?_ _)); exact BK170.out)) : gb170 ≠ gb193)); have n13_ := Aside0.mk ((by rw [hg]; exact Nat.ne_of_gt (blk_lt (g := gb170) (o := .cells #[.int .i64 a1_0, .int .i64 a1_1] 25 (0, 0)) (by (with_reducible repeat (first | refine blk_drewN ?_ _ | refine blk_drew ?_ | refine blk_alloc ?_ _)); exact BK170.out)) : gb193 ≠ gb170)); have n14_ := Aside0.mk ((by rw [hg]; exact Nat.ne_of_lt (blk_lt (g := gb171) (o := .cells #[.int .i64 a2_0, .int .i64 a2_1] 59 (0, 0)) (by (with_reducible repeat (first | refine blk_drewN ?_ _ | refine blk_drew ?_ | refine blk_alloc ?_ _)); exact BK171.out)) : gb171 ≠ gb193)); have n15_ := Aside0.mk ((by rw [hg]; exact Nat.ne_of_gt (blk_lt (g := gb171) (o := .cells #[.int .i64 a2_0, .int .i64 a2_1] 59 (0, 0)) (by (with_reducible repeat (first | refine blk_drewN ?_ _ | refine blk_drew ?_ | refine blk_alloc ?_ _)); exact BK171.out)) : gb193 ≠ gb171)); have n16_ := Aside0.mk ((by rw [hg]; exact Nat.ne_of_lt (blk_lt (g := gb176) (o := .cells #[.int .i64 t172, .int .i64 t173, .int .i64 t174] 51 (0, 0)) (by (with_reducible repeat (first | refine blk_drewN ?_ _ | refine blk_drew ?_ | refine blk_alloc ?_ _)); exact BK176.out)) : gb176 ≠ gb193)); have n17_ := Aside0.mk ((by rw [hg]; exact Nat.ne_of_gt (blk_lt (g := gb176) (o := .cells #[.int .i64 t172, .int .i64 t173, .int .i64 t174] 51 (0, 0)) (by (with_reducible repeat (first | refine blk_drewN ?_ _ | refine blk_drew ?_ | refine blk_alloc ?_ _)); exact BK176.out)) : gb193 ≠ gb176)); have n18_ := Aside0.mk ((by rw [hg]; exact Nat.ne_of_lt (blk_lt (g := gb184) (o := .cells #[.int .i64 t182, .int .i64 t183] 25 (0, 0)) (by (with_reducible repeat (first | refine blk_drewN ?_ _ | refine blk_drew ?_ | refine blk_alloc ?_ _)); exact BK184.out)) : gb184 ≠ gb193)); have n19_ := Aside0.mk ((by rw [hg]; exact Nat.ne_of_gt (blk_lt (g := gb184) (o := .cells #[.int .i64 t182, .int .i64 t183] 25 (0, 0)) (by (with_reducible repeat (first | refine blk_drewN ?_ _ | refine blk_drew ?_ | refine blk_alloc ?_ _)); exact BK184.out)) : gb193 ≠ gb184)); have n20_ := Aside0.mk ((by rw [hg]; exact Nat.ne_of_lt (blk_lt (g := gb187) (o := .cells #[.int .i64 t185, .int .i64 t186] 25 (0, 0)) (by (with_reducible repeat (first | refine blk_drewN ?_ _ | refine blk_drew ?_ | refine blk_alloc ?_ _)); exact BK187.out)) : gb187 ≠ gb193)); have n21_ := Aside0.mk ((by rw [hg]; exact Nat.ne_of_gt (blk_lt (g := gb187) (o := .cells #[.int .i64 t185, .int .i64 t186] 25 (0, 0)) (by (with_reducible repeat (first | refine blk_drewN ?_ _ | refine blk_drew ?_ | refine blk_alloc ?_ _)); exact BK187.out)) : gb193 ≠ gb187)); clear BK169; clear BK170; clear BK171; clear BK176; clear BK184; clear BK187; clear HB; have BK169 := n0_; have BK170 := n1_; have BK171 := n2_; have BK176 := n3_; have BK184 := n4_; have BK187 := n5_; have HB := n6_; have BK193 := n7_; have GW193 := n8_; have GE193 := n9_; have NB169_193 := n10_; have NB193_169 := n11_; have NB170_193 := n12_; have NB193_170 := n13_; have NB171_193 := n14_; have NB193_171 := n15_; have NB176_193 := n16_; have NB193_176 := n17_; have NB184_193 := n18_; have NB193_184 := n19_; have NB187_193 := n20_; have NB193_187 := n21_; clear n0_ n1_ n2_ n3_ n4_ n5_ n6_ n7_ n8_ n9_ n10_ n11_ n12_ n13_ n14_ n15_ n16_ n17_ n18_ n19_ n20_ n21_; clear hb hbox hg; have hnb129 := NB193_169.out; have hnc129 := NB169_193.out; have hnb130 := NB193_170.out; have hnc130 := NB170_193.out; have hnb131 := NB193_171.out; have hnc131 := NB171_193.out; have hnb132 := NB193_176.out; have hnc132 := NB176_193.out; have hnb133 := NB193_184.out; have hnc133 := NB184_193.out; have hnb134 := NB193_187.out; have hnc134 := NB187_193.out; have hcz135_0 : w128.cell? ⟨gb193, 0, none⟩ = some (.int .i64 0) := (blk_cell BK193.out 0).trans rfl; have hcz135_1 : w128.cell? ⟨gb193, 1, none⟩ = some (.int .i64 0) := (blk_cell BK193.out 1).trans rfl; have hfz135_0 := blk_frozen BK193.out 0; have hfz135_1 := blk_frozen BK193.out 1; have hcz136_0 : w128.cell? ⟨gb176, 0, none⟩ = some (.int .i64 t172) := (blk_cell BK176.out 0).trans rfl; have hcz136_1 : w128.cell? ⟨gb176, 1, none⟩ = some (.int .i64 t173) := (blk_cell BK176.out 1).trans rfl; have hcz136_2 : w128.cell? ⟨gb176, 2, none⟩ = some (.int .i64 t174) := (blk_cell BK176.out 2).trans rfl; have hfz136_0 := blk_frozen BK176.out 0; have hfz136_1 := blk_frozen BK176.out 1; have hfz136_2 := blk_frozen BK176.out 2; have hcz137_0 : w128.cell? ⟨gb170, 0, none⟩ = some (.int .i64 a1_0) := (blk_cell BK170.out 0).trans rfl; have hcz137_1 : w128.cell? ⟨gb170, 1, none⟩ = some (.int .i64 a1_1) := (blk_cell BK170.out 1).trans rfl; have hfz137_0 := blk_frozen BK170.out 0; have hfz137_1 := blk_frozen BK170.out 1) | ((with_reducible refine gate_callee (f := 35) rfl ?_); refine goesL_ (some 107) rfl rfl Try.func35 (by kernel_rfl) rfl #[.agg #[.int .i64 t172, .int .i64 t173, .int .i64 t174], .agg #[.int .i64 a1_0, .int .i64 a1_1], .int .i64 a2_1] rfl (by (try simp only [List.map_toArray, List.map_cons, List.map_nil]); first | done | rfl | (simp only [List.length_drop, List.length_take]; rfl)) ?_; (with_reducible refine (layout_Layout_Chunk.calls kj31 t172 t173 t174 a1_0 a1_1 a2_1 t194 t195 t196 _ A111.out).mono ?_); rintro e w138 ⟨rfl, hb⟩; refine ⟨_, rfl, ?_⟩; have n0_ := Aside0.mk (blk_below (g := gb169) (o := .cells #[.int .i64 a0_0, .int .i64 a0_1, .int .i64 a0_2] 49 (0, 0)) (by (with_reducible repeat (first | refine blk_drewN ?_ _ | refine blk_drew ?_ | refine blk_alloc ?_ _)); refine blk_far ?_ NB169_193.out _; (with_reducible repeat (first | refine blk_drewN ?_ _ | refine blk_drew ?_ | refine blk_alloc ?_ _)); refine blk_far ?_ NB169_193.out _; (with_reducible repeat (first | refine blk_drewN ?_ _ | refine blk_drew ?_ | refine blk_alloc ?_ _)); exact BK169.out) hb); have n1_ := Aside0.mk (blk_below (g := gb170) (o := .cells #[.int .i64 a1_0, .int .i64 a1_1] 25 (0, 0)) (by (with_reducible repeat (first | refine blk_drewN ?_ _ | refine blk_drew ?_ | refine blk_alloc ?_ _)); refine blk_far ?_ NB170_193.out _; (with_reducible repeat (first | refine blk_drewN ?_ _ | refine blk_drew ?_ | refine blk_alloc ?_ _)); refine blk_far ?_ NB170_193.out _; (with_reducible repeat (first | refine blk_drewN ?_ _ | refine blk_drew ?_ | refine blk_alloc ?_ _)); exact BK170.out) hb); have n2_ := Aside0.mk (blk_below (g := gb171) (o := .cells #[.int .i64 a2_0, .int .i64 a2_1] 59 (0, 0)) (by (with_reducible repeat (first | refine blk_drewN ?_ _ | refine blk_drew ?_ | refine blk_alloc ?_ _)); refine blk_far ?_ NB171_193.out _; (with_reducible repeat (first | refine blk_drewN ?_ _ | refine blk_drew ?_ | refine blk_alloc ?_ _)); refine blk_far ?_ NB171_193.out _; (with_reducible repeat (first | refine blk_drewN ?_ _ | refine blk_drew ?_ | refine blk_alloc ?_ _)); exact BK171.out) hb); have n3_ := Aside0.mk (blk_below (g := gb176) (o := .cells #[.int .i64 t172, .int .i64 t173, .int .i64 t174] 51 (0, 0)) (by (with_reducible repeat (first | refine blk_drewN ?_ _ | refine blk_drew ?_ | refine blk_alloc ?_ _)); refine blk_far ?_ NB176_193.out _; (with_reducible repeat (first | refine blk_drewN ?_ _ | refine blk_drew ?_ | refine blk_alloc ?_ _)); refine blk_far ?_ NB176_193.out _; (with_reducible repeat (first | refine blk_drewN ?_ _ | refine blk_drew ?_ | refine blk_alloc ?_ _)); exact BK176.out) hb); have n4_ := Aside0.mk (blk_below (g := gb184) (o := .cells #[.int .i64 t182, .int .i64 t183] 25 (0, 0)) (by (with_reducible repeat (first | refine blk_drewN ?_ _ | refine blk_drew ?_ | refine blk_alloc ?_ _)); refine blk_far ?_ NB184_193.out _; (with_reducible repeat (first | refine blk_drewN ?_ _ | refine blk_drew ?_ | refine blk_alloc ?_ _)); refine blk_far ?_ NB184_193.out _; (with_reducible repeat (first | refine blk_drewN ?_ _ | refine blk_drew ?_ | refine blk_alloc ?_ _)); exact BK184.out) hb); have n5_ := Aside0.mk (blk_below (g := gb187) (o := .cells #[.int .i64 t185, .int .i64 t186] 25 (0, 0)) (by (with_reducible repeat (first | refine blk_drewN ?_ _ | refine blk_drew ?_ | refine blk_alloc ?_ _)); refine blk_far ?_ NB187_193.out _; (with_reducible repeat (first | refine blk_drewN ?_ _ | refine blk_drew ?_ | refine blk_alloc ?_ _)); refine blk_far ?_ NB187_193.out _; (with_reducible repeat (first | refine blk_drewN ?_ _ | refine blk_drew ?_ | refine blk_alloc ?_ _)); exact BK187.out) hb); have n6_ := Aside0.mk (blk_below (g := gb193) (o := .cells #[.int .i64 t190, .int .i64 t191] 25 (0, 0)) (by (with_reducible repeat (first | refine blk_drewN ?_ _ | refine blk_drew ?_ | refine blk_alloc ?_ _)); refine blk_put (cs := #[.int .i64 t190, .int .i64 0]) ?_ 1 _ rfl; (with_reducible repeat (first | refine blk_drewN ?_ _ | refine blk_drew ?_ | refine blk_alloc ?_ _)); refine blk_put (cs := #[.int .i64 0, .int .i64 0]) ?_ 0 _ rfl; (with_reducible repeat (first | refine blk_drewN ?_ _ | refine blk_drew ?_ | refine blk_alloc ?_ _)); exact BK193.out) hb); have n7_ := Aside0.mk (below_step (by repeat (first | (with_reducible first | exact HB.out | apply below_alloc | apply pw_below_drewN | apply below_drew1 | refine below_set ?_ GE169.out | refine below_set ?_ GE170.out | refine below_set ?_ GE171.out | refine below_set ?_ GE176.out | refine below_set ?_ GE184.out | refine below_set ?_ GE187.out | refine below_set ?_ GE193.out) | exact HB.out)) hb); clear BK169; clear BK170; clear BK171; clear BK176; clear BK184; clear BK187; clear BK193; clear HB; have BK169 := n0_; have BK170 := n1_; have BK171 := n2_; have BK176 := n3_; have BK184 := n4_; have BK187 := n5_; have BK193 := n6_; have HB := n7_; clear n0_ n1_ n2_ n3_ n4_ n5_ n6_ n7_; (try clear hb); (try clear hb2); (try clear hk); (try clear hi)) | ((with_reducible refine gate_dst (N := 21) rfl ?_); refine box_event ?hg (N := 21) ?hd (cs := #[.int .i64 0, .int .i64 0]) (t := 25) ?hr ?_; (case hd => rfl); (case hg => rfl); (case hr => first | (go_simp; done) | (go_simp; rfl)); intro gb197 hg w139 hbox hb; have n0_ := Aside0.mk (blk_below (g := gb169) (o := .cells #[.int .i64 a0_0, .int .i64 a0_1, .int .i64 a0_2] 49 (0, 0)) (by (with_reducible repeat (first | refine blk_drewN ?_ _ | refine blk_drew ?_ | refine blk_alloc ?_ _)); exact BK169.out) hb); have n1_ := Aside0.mk (blk_below (g := gb170) (o := .cells #[.int .i64 a1_0, .int .i64 a1_1] 25 (0, 0)) (by (with_reducible repeat (first | refine blk_drewN ?_ _ | refine blk_drew ?_ | refine blk_alloc ?_ _)); exact BK170.out) hb); have n2_ := Aside0.mk (blk_below (g := gb171) (o := .cells #[.int .i64 a2_0, .int .i64 a2_1] 59 (0, 0)) (by (with_reducible repeat (first | refine blk_drewN ?_ _ | refine blk_drew ?_ | refine blk_alloc ?_ _)); exact BK171.out) hb); have n3_ := Aside0.mk (blk_below (g := gb176) (o := .cells #[.int .i64 t172, .int .i64 t173, .int .i64 t174] 51 (0, 0)) (by (with_reducible repeat (first | refine blk_drewN ?_ _ | refine blk_drew ?_ | refine blk_alloc ?_ _)); exact BK176.out) hb); have n4_ := Aside0.mk (blk_below (g := gb184) (o := .cells #[.int .i64 t182, .int .i64 t183] 25 (0, 0)) (by (with_reducible repeat (first | refine blk_drewN ?_ _ | refine blk_drew ?_ | refine blk_alloc ?_ _)); exact BK184.out) hb); have n5_ := Aside0.mk (blk_below (g := gb187) (o := .cells #[.int .i64 t185, .int .i64 t186] 25 (0, 0)) (by (with_reducible repeat (first | refine blk_drewN ?_ _ | refine blk_drew ?_ | refine blk_alloc ?_ _)); exact BK187.out) hb); have n6_ := Aside0.mk (blk_below (g := gb193) (o := .cells #[.int .i64 t190, .int .i64 t191] 25 (0, 0)) (by (with_reducible repeat (first | refine blk_drewN ?_ _ | refine blk_drew ?_ | refine blk_alloc ?_ _)); exact BK193.out) hb); have n7_ := Aside0.mk (below_step (by repeat (first | (with_reducible first | exact HB.out | apply below_alloc | apply pw_below_drewN | apply below_drew1 | refine below_set ?_ GE169.out | refine below_set ?_ GE170.out | refine below_set ?_ GE171.out | refine below_set ?_ GE176.out | refine below_set ?_ GE184.out | refine below_set ?_ GE187.out | refine below_set ?_ GE193.out) | exact HB.out)) hb); have n8_ := Aside0.mk (hbox); have n9_ := Aside0.mk ((by rw [hg]; exact (below_size (by repeat (first | (with_reducible first | exact HB.out | apply below_alloc | apply pw_below_drewN | apply below_drew1 | refine below_set ?_ GE169.out | refine below_set ?_ GE170.out | refine below_set ?_ GE171.out | refine below_set ?_ GE176.out | refine below_set ?_ GE184.out | refine below_set ?_ GE187.out | refine below_set ?_ GE193.out) | exact HB.out))) : w.heap.size ≤ gb197)); have n10_ := Aside0.mk ((by rw [hg]; exact (below_size (by repeat (first | (with_reducible first | exact HB.out | apply below_alloc | apply pw_below_drewN | apply below_drew1 | refine below_set ?_ GE169.out | refine below_set ?_ GE170.out | refine below_set ?_ GE171.out | refine below_set ?_ GE176.out | refine below_set ?_ GE184.out | refine below_set ?_ GE187.out | refine below_set ?_ GE193.out) | exact HB.out))) : w.heap.size ≤ gb197)); have n11_ := Aside0.mk ((by rw [hg]; exact Nat.ne_of_lt (blk_lt (g := gb169) (o := .cells #[.int .i64 a0_0, .int .i64 a0_1, .int .i64 a0_2] 49 (0, 0)) (by (with_reducible repeat (first | refine blk_drewN ?_ _ | refine blk_drew ?_ | refine blk_alloc ?_ _)); exact BK169.out)) : gb169 ≠ gb197)); have n12_ := Aside0.mk ((by rw [hg]; exact Nat.ne_of_gt (blk_lt (g := gb169) (o := .cells #[.int .i64 a0_0, .int .i64 a0_1, .int .i64 a0_2] 49 (0, 0)) (by (with_reducible repeat (first | refine blk_drewN ?_ _ | refine blk_drew ?_ | refine blk_alloc ?_ _)); exact BK169.out)) : gb197 ≠ gb169)); have n13_ := Aside0.mk ((by rw [hg]; exact Nat.ne_of_lt (blk_lt (g := gb170) (o := .cells #[.int .i64 a1_0, .int .i64 a1_1] 25 (0, 0)) (by (with_reducible repeat (first | refine blk_drewN ?_ _ | refine blk_drew ?_ | refine blk_alloc ?_ _)); exact BK170.out)) : gb170 ≠ gb197)); have n14_ := Aside0.mk ((by rw [hg]; exact Nat.ne_of_gt (blk_lt (g := gb170) (o := .cells #[.int .i64 a1_0, .int .i64 a1_1] 25 (0, 0)) (by (with_reducible repeat (first | refine blk_drewN ?_ _ | refine blk_drew ?_ | refine blk_alloc ?_ _)); exact BK170.out)) : gb197 ≠ gb170)); have n15_ := Aside0.mk ((by rw [hg]; exact Nat.ne_of_lt (blk_lt (g := gb171) (o := .cells #[.int .i64 a2_0, .int .i64 a2_1] 59 (0, 0)) (by (with_reducible repeat (first | refine blk_drewN ?_ _ | refine blk_drew ?_ | refine blk_alloc ?_ _)); exact BK171.out)) : gb171 ≠ gb197)); have n16_ := Aside0.mk ((by rw [hg]; exact Nat.ne_of_gt (blk_lt (g := gb171) (o := .cells #[.int .i64 a2_0, .int .i64 a2_1] 59 (0, 0)) (by (with_reducible repeat (first | refine blk_drewN ?_ _ | refine blk_drew ?_ | refine blk_alloc ?_ _)); exact BK171.out)) : gb197 ≠ gb171)); have n17_ := Aside0.mk ((by rw [hg]; exact Nat.ne_of_lt (blk_lt (g := gb176) (o := .cells #[.int .i64 t172, .int .i64 t173, .int .i64 t174] 51 (0, 0)) (by (with_reducible repeat (first | refine blk_drewN ?_ _ | refine blk_drew ?_ | refine blk_alloc ?_ _)); exact BK176.out)) : gb176 ≠ gb197)); have n18_ := Aside0.mk ((by rw [hg]; exact Nat.ne_of_gt (blk_lt (g := gb176) (o := .cells #[.int .i64 t172, .int .i64 t173, .int .i64 t174] 51 (0, 0)) (by (with_reducible repeat (first | refine blk_drewN ?_ _ | refine blk_drew ?_ | refine blk_alloc ?_ _)); exact BK176.out)) : gb197 ≠ gb176)); have n19_ := Aside0.mk ((by rw [hg]; exact Nat.ne_of_lt (blk_lt (g := gb184) (o := .cells #[.int .i64 t182, .int .i64 t183] 25 (0, 0)) (by (with_reducible repeat (first | refine blk_drewN ?_ _ | refine blk_drew ?_ | refine blk_alloc ?_ _)); exact BK184.out)) : gb184 ≠ gb197)); have n20_ := Aside0.mk ((by rw [hg]; exact Nat.ne_of_gt (blk_lt (g := gb184) (o := .cells #[.int .i64 t182, .int .i64 t183] 25 (0, 0)) (by (with_reducible repeat (first | refine blk_drewN ?_ _ | refine blk_drew ?_ | refine blk_alloc ?_ _)); exact BK184.out)) : gb197 ≠ gb184)); have n21_ := Aside0.mk ((by rw [hg]; exact Nat.ne_of_lt (blk_lt (g := gb187) (o := .cells #[.int .i64 t185, .int .i64 t186] 25 (0, 0)) (by (with_reducible repeat (first | refine blk_drewN ?_ _ | refine blk_drew ?_ | refine blk_alloc ?_ _)); exact BK187.out)) : gb187 ≠ gb197)); have n22_ := Aside0.mk ((by rw [hg]; exact Nat.ne_of_gt (blk_lt (g := gb187) (o := .cells #[.int .i64 t185, .int .i64 t186] 25 (0, 0)) (by (with_reducible repeat (first | refine blk_drewN ?_ _ | refine blk_drew ?_ | refine blk_alloc ?_ _)); exact BK187.out)) : gb197 ≠ gb187)); have n23_ := Aside0.mk ((by rw [hg]; exact Nat.ne_of_lt (blk_lt (g := gb193) (o := .cells #[.int .i64 t190, .int .i64 t191] 25 (0, 0)) (by (with_reducible repeat (first | refine blk_drewN ?_ _ | refine blk_drew ?_ | refine blk_alloc ?_ _)); exact BK193.out)) : gb193 ≠ gb197)); have n24_ := Aside0.mk ((by rw [hg]; exact Nat.ne_of_gt (blk_lt (g := gb193) (o := .cells #[.int .i64 t190, .int .i64 t191] 25 (0, 0)) (by (with_reducible repeat (first | refine blk_drewN ?_ _ | refine blk_drew ?_ | refine blk_alloc ?_ _)); exact BK193.out)) : gb197 ≠ gb193)); clear BK169; clear BK170; clear BK171; clear BK176; clear BK184; clear BK187; clear BK193; clear HB; have BK169 := n0_; have BK170 := n1_; have BK171 := n2_; have BK176 := n3_; have BK184 := n4_; have BK187 := n5_; have BK193 := n6_; have HB := n7_; have BK197 := n8_; have GW197 := n9_; have GE197 := n10_; have NB169_197 := n11_; have NB197_169 := n12_; have NB170_197 := n13_; have NB197_170 := n14_; have NB171_197 := n15_; have NB197_171 := n16_; have NB176_197 := n17_; have NB197_176 := n18_; have NB184_197 := n19_; have NB197_184 := n20_; have NB187_197 := n21_; have NB197_187 := n22_; have NB193_197 := n23_; have NB197_193 := n24_; clear n0_ n1_ n2_ n3_ n4_ n5_ n6_ n7_ n8_ n9_ n10_ n11_ n12_ n13_ n14_ n15_ n16_ n17_ n18_ n19_ n20_ n21_ n22_ n23_ n24_; clear hb hbox hg; have hnb140 := NB197_169.out; have hnc140 := NB169_197.out; have hnb141 := NB197_170.out; have hnc141 := NB170_197.out; have hnb142 := NB197_171.out; have hnc142 := NB171_197.out; have hnb143 := NB197_176.out; have hnc143 := NB176_197.out; have hnb144 := NB197_184.out; have hnc144 := NB184_197.out; have hnb145 := NB197_187.out; have hnc145 := NB187_197.out; have hnb146 := NB197_193.out; have hnc146 := NB193_197.out; have hcz147_0 : w139.cell? ⟨gb197, 0, none⟩ = some (.int .i64 0) := (blk_cell BK197.out 0).trans rfl; have hcz147_1 : w139.cell? ⟨gb197, 1, none⟩ = some (.int .i64 0) := (blk_cell BK197.out 1).trans rfl; have hfz147_0 := blk_frozen BK197.out 0; have hfz147_1 := blk_frozen BK197.out 1) | ((with_reducible refine gate_dst (N := 23) rfl ?_); refine box_event ?hg (N := 23) ?hd (cs := #[.int .i64 0, .int .i64 0]) (t := 25) ?hr ?_; (case hd => rfl); (case hg => rfl); (case hr => first | (go_simp; done) | (go_simp; rfl)); intro gb198 hg w148 hbox hb; have n0_ := Aside0.mk (blk_below (g := gb169) (o := .cells #[.int .i64 a0_0, .int .i64 a0_1, .int .i64 a0_2] 49 (0, 0)) (by (with_reducible repeat (first | refine blk_drewN ?_ _ | refine blk_drew ?_ | refine blk_alloc ?_ _)); refine blk_far ?_ NB169_197.out _; (with_reducible repeat (first | refine blk_drewN ?_ _ | refine blk_drew ?_ | refine blk_alloc ?_ _)); refine blk_far ?_ NB169_197.out _; (with_reducible repeat (first | refine blk_drewN ?_ _ | refine blk_drew ?_ | refine blk_alloc ?_ _)); exact BK169.out) hb); have n1_ := Aside0.mk (blk_below (g := gb170) (o := .cells #[.int .i64 a1_0, .int .i64 a1_1] 25 (0, 0)) (by (with_reducible repeat (first | refine blk_drewN ?_ _ | refine blk_drew ?_ | refine blk_alloc ?_ _)); refine blk_far ?_ NB170_197.out _; (with_reducible repeat (first | refine blk_drewN ?_ _ | refine blk_drew ?_ | refine blk_alloc ?_ _)); refine blk_far ?_ NB170_197.out _; (with_reducible repeat (first | refine blk_drewN ?_ _ | refine blk_drew ?_ | refine blk_alloc ?_ _)); exact BK170.out) hb); have n2_ := Aside0.mk (blk_below (g := gb171) (o := .cells #[.int .i64 a2_0, .int .i64 a2_1] 59 (0, 0)) (by (with_reducible repeat (first | refine blk_drewN ?_ _ | refine blk_drew ?_ | refine blk_alloc ?_ _)); refine blk_far ?_ NB171_197.out _; (with_reducible repeat (first | refine blk_drewN ?_ _ | refine blk_drew ?_ | refine blk_alloc ?_ _)); refine blk_far ?_ NB171_197.out _; (with_reducible repeat (first | refine blk_drewN ?_ _ | refine blk_drew ?_ | refine blk_alloc ?_ _)); exact BK171.out) hb); have n3_ := Aside0.mk (blk_below (g := gb176) (o := .cells #[.int .i64 t172, .int .i64 t173, .int .i64 t174] 51 (0, 0)) (by (with_reducible repeat (first | refine blk_drewN ?_ _ | refine blk_drew ?_ | refine blk_alloc ?_ _)); refine blk_far ?_ NB176_197.out _; (with_reducible repeat (first | refine blk_drewN ?_ _ | refine blk_drew ?_ | refine blk_alloc ?_ _)); refine blk_far ?_ NB176_197.out _; (with_reducible repeat (first | refine blk_drewN ?_ _ | refine blk_drew ?_ | refine blk_alloc ?_ _)); exact BK176.out) hb); have n4_ := Aside0.mk (blk_below (g := gb184) (o := .cells #[.int .i64 t182, .int .i64 t183] 25 (0, 0)) (by (with_reducible repeat (first | refine blk_drewN ?_ _ | refine blk_drew ?_ | refine blk_alloc ?_ _)); refine blk_far ?_ NB184_197.out _; (with_reducible repeat (first | refine blk_drewN ?_ _ | refine blk_drew ?_ | refine blk_alloc ?_ _)); refine blk_far ?_ NB184_197.out _; (with_reducible repeat (first | refine blk_drewN ?_ _ | refine blk_drew ?_ | refine blk_alloc ?_ _)); exact BK184.out) hb); have n5_ := Aside0.mk (blk_below (g := gb187) (o := .cells #[.int .i64 t185, .int .i64 t186] 25 (0, 0)) (by (with_reducible repeat (first | refine blk_drewN ?_ _ | refine blk_drew ?_ | refine blk_alloc ?_ _)); refine blk_far ?_ NB187_197.out _; (with_reducible repeat (first | refine blk_drewN ?_ _ | refine blk_drew ?_ | refine blk_alloc ?_ _)); refine blk_far ?_ NB187_197.out _; (with_reducible repeat (first | refine blk_drewN ?_ _ | refine blk_drew ?_ | refine blk_alloc ?_ _)); exact BK187.out) hb); have n6_ := Aside0.mk (blk_below (g := gb193) (o := .cells #[.int .i64 t190, .int .i64 t191] 25 (0, 0)) (by (with_reducible repeat (first | refine blk_drewN ?_ _ | refine blk_drew ?_ | refine blk_alloc ?_ _)); refine blk_far ?_ NB193_197.out _; (with_reducible repeat (first | refine blk_drewN ?_ _ | refine blk_drew ?_ | refine blk_alloc ?_ _)); refine blk_far ?_ NB193_197.out _; (with_reducible repeat (first | refine blk_drewN ?_ _ | refine blk_drew ?_ | refine blk_alloc ?_ _)); exact BK193.out) hb); have n7_ := Aside0.mk (blk_below (g := gb197) (o := .cells #[.int .i64 t194, .int .i64 t195] 25 (0, 0)) (by (with_reducible repeat (first | refine blk_drewN ?_ _ | refine blk_drew ?_ | refine blk_alloc ?_ _)); refine blk_put (cs := #[.int .i64 t194, .int .i64 0]) ?_ 1 _ rfl; (with_reducible repeat (first | refine blk_drewN ?_ _ | refine blk_drew ?_ | refine blk_alloc ?_ _)); refine blk_put (cs := #[.int .i64 0, .int .i64 0]) ?_ 0 _ rfl; (with_reducible repeat (first | refine blk_drewN ?_ _ | refine blk_drew ?_ | refine blk_alloc ?_ _)); exact BK197.out) hb); have n8_ := Aside0.mk (below_step (by repeat (first | (with_reducible first | exact HB.out | apply below_alloc | apply pw_below_drewN | apply below_drew1 | refine below_set ?_ GE169.out | refine below_set ?_ GE170.out | refine below_set ?_ GE171.out | refine below_set ?_ GE176.out | refine below_set ?_ GE184.out | refine below_set ?_ GE187.out | refine below_set ?_ GE193.out | refine below_set ?_ GE197.out) | exact HB.out)) hb); have n9_ := Aside0.mk (hbox); have n10_ := Aside0.mk ((by rw [hg]; exact (below_size (by repeat (first | (with_reducible first | exact HB.out | apply below_alloc | apply pw_below_drewN | apply below_drew1 | refine below_set ?_ GE169.out | refine below_set ?_ GE170.out | refine below_set ?_ GE171.out | refine below_set ?_ GE176.out | refine below_set ?_ GE184.out | refine below_set ?_ GE187.out | refine below_set ?_ GE193.out | refine below_set ?_ GE197.out) | exact HB.out))) : w.heap.size ≤ gb198)); have n11_ := Aside0.mk ((by rw [hg]; exact (below_size (by repeat (first | (with_reducible first | exact HB.out | apply below_alloc | apply pw_below_drewN | apply below_drew1 | refine below_set ?_ GE169.out | refine below_set ?_ GE170.out | refine below_set ?_ GE171.out | refine below_set ?_ GE176.out | refine below_set ?_ GE184.out | refine below_set ?_ GE187.out | refine below_set ?_ GE193.out | refine below_set ?_ GE197.out) | exact HB.out))) : w.heap.size ≤ gb198)); have n12_ := Aside0.mk ((by rw [hg]; exact Nat.ne_of_lt (blk_lt (g := gb169) (o := .cells #[.int .i64 a0_0, .int .i64 a0_1, .int .i64 a0_2] 49 (0, 0)) (by (with_reducible repeat (first | refine blk_drewN ?_ _ | refine blk_drew ?_ | refine blk_alloc ?_ _)); refine blk_far ?_ NB169_197.out _; (with_reducible repeat (first | refine blk_drewN ?_ _ | refine blk_drew ?_ | refine blk_alloc ?_ _)); refine blk_far ?_ NB169_197.out _; (with_reducible repeat (first | refine blk_drewN ?_ _ | refine blk_drew ?_ | refine blk_alloc ?_ _)); exact BK169.out)) : gb169 ≠ gb198)); have n13_ := Aside0.mk ((by rw [hg]; exact Nat.ne_of_gt (blk_lt (g := gb169) (o := .cells #[.int .i64 a0_0, .int .i64 a0_1, .int .i64 a0_2] 49 (0, 0)) (by (with_reducible repeat (first | refine blk_drewN ?_ _ | refine blk_drew ?_ | refine blk_alloc ?_ _)); refine blk_far ?_ NB169_197.out _; (with_reducible repeat (first | refine blk_drewN ?_ _ | refine blk_drew ?_ | refine blk_alloc ?_ _)); refine blk_far ?_ NB169_197.out _; (with_reducible repeat (first | refine blk_drewN ?_ _ | refine blk_drew ?_ | refine blk_alloc ?_ _)); exact BK169.out)) : gb198 ≠ gb169)); have n14_ := Aside0.mk ((by rw [hg]; exact Nat.ne_of_lt (blk_lt (g := gb170) (o := .cells #[.int .i64 a1_0, .int .i64 a1_1] 25 (0, 0)) (by (with_reducible repeat (first | refine blk_drewN ?_ _ | refine blk_drew ?_ | refine blk_alloc ?_ _)); refine blk_far ?_ NB170_197.out _; (with_reducible repeat (first | refine blk_drewN ?_ _ | refine blk_drew ?_ | refine blk_alloc ?_ _)); refine blk_far ?_ NB170_197.out _; (with_reducible repeat (first | refine blk_drewN ?_ _ | refine blk_drew ?_ | refine blk_alloc ?_ _)); exact BK170.out)) : gb170 ≠ gb198)); have n15_ := Aside0.mk ((by rw [hg]; exact Nat.ne_of_gt (blk_lt (g := gb170) (o := .cells #[.int .i64 a1_0, .int .i64 a1_1] 25 (0, 0)) (by (with_reducible repeat (first | refine blk_drewN ?_ _ | refine blk_drew ?_ | refine blk_alloc ?_ _)); refine blk_far ?_ NB170_197.out _; (with_reducible repeat (first | refine blk_drewN ?_ _ | refine blk_drew ?_ | refine blk_alloc ?_ _)); refine blk_far ?_ NB170_197.out _; (with_reducible repeat (first | refine blk_drewN ?_ _ | refine blk_drew ?_ | refine blk_alloc ?_ _)); exact BK170.out)) : gb198 ≠ gb170)); have n16_ := Aside0.mk ((by rw [hg]; exact Nat.ne_of_lt (blk_lt (g := gb171) (o := .cells #[.int .i64 a2_0, .int .i64 a2_1] 59 (0, 0)) (by (with_reducible repeat (first | refine blk_drewN ?_ _ | refine blk_drew ?_ | refine blk_alloc ?_ _)); refine blk_far ?_ NB171_197.out _; (with_reducible repeat (first | refine blk_drewN ?_ _ | refine blk_drew ?_ | refine blk_alloc ?_ _)); refine blk_far ?_ NB171_197.out _; (with_reducible repeat (first | refine blk_drewN ?_ _ | refine blk_drew ?_ | refine blk_alloc ?_ _)); exact BK171.out)) : gb171 ≠ gb198)); have n17_ := Aside0.mk ((by rw [hg]; exact Nat.ne_of_gt (blk_lt (g := gb171) (o := .cells #[.int .i64 a2_0, .int .i64 a2_1] 59 (0, 0)) (by (with_reducible repeat (first | refine blk_drewN ?_ _ | refine blk_drew ?_ | refine blk_alloc ?_ _)); refine blk_far ?_ NB171_197.out _; (with_reducible repeat (first | refine blk_drewN ?_ _ | refine blk_drew ?_ | refine blk_alloc ?_ _)); refine blk_far ?_ NB171_197.out _; (with_reducible repeat (first | refine blk_drewN ?_ _ | refine blk_drew ?_ | refine blk_alloc ?_ _)); exact BK171.out)) : gb198 ≠ gb171)); have n18_ := Aside0.mk ((by rw [hg]; exact Nat.ne_of_lt (blk_lt (g := gb176) (o := .cells #[.int .i64 t172, .int .i64 t173, .int .i64 t174] 51 (0, 0)) (by (with_reducible repeat (first | refine blk_drewN ?_ _ | refine blk_drew ?_ | refine blk_alloc ?_ _)); refine blk_far ?_ NB176_197.out _; (with_reducible repeat (first | refine blk_drewN ?_ _ | refine blk_drew ?_ | refine blk_alloc ?_ _)); refine blk_far ?_ NB176_197.out _; (with_reducible repeat (first | refine blk_drewN ?_ _ | refine blk_drew ?_ | refine blk_alloc ?_ _)); exact BK176.out)) : gb176 ≠ gb198)); have n19_ := Aside0.mk ((by rw [hg]; exact Nat.ne_of_gt (blk_lt (g := gb176) (o := .cells #[.int .i64 t172, .int .i64 t173, .int .i64 t174] 51 (0, 0)) (by (with_reducible repeat (first | refine blk_drewN ?_ _ | refine blk_drew ?_ | refine blk_alloc ?_ _)); refine blk_far ?_ NB176_197.out _; (with_reducible repeat (first | refine blk_drewN ?_ _ | refine blk_drew ?_ | refine blk_alloc ?_ _)); refine blk_far ?_ NB176_197.out _; (with_reducible repeat (first | refine blk_drewN ?_ _ | refine blk_drew ?_ | refine blk_alloc ?_ _)); exact BK176.out)) : gb198 ≠ gb176)); have n20_ := Aside0.mk ((by rw [hg]; exact Nat.ne_of_lt (blk_lt (g := gb184) (o := .cells #[.int .i64 t182, .int .i64 t183] 25 (0, 0)) (by (with_reducible repeat (first | refine blk_drewN ?_ _ | refine blk_drew ?_ | refine blk_alloc ?_ _)); refine blk_far ?_ NB184_197.out _; (with_reducible repeat (first | refine blk_drewN ?_ _ | refine blk_drew ?_ | refine blk_alloc ?_ _)); refine blk_far ?_ NB184_197.out _; (with_reducible repeat (first | refine blk_drewN ?_ _ | refine blk_drew ?_ | refine blk_alloc ?_ _)); exact BK184.out)) : gb184 ≠ gb198)); have n21_ := Aside0.mk ((by rw [hg]; exact Nat.ne_of_gt (blk_lt (g := gb184) (o := .cells #[.int .i64 t182, .int .i64 t183] 25 (0, 0)) (by (with_reducible repeat (first | refine blk_drewN ?_ _ | refine blk_drew ?_ | refine blk_alloc ?_ _)); refine blk_far ?_ NB184_197.out _; (with_reducible repeat (first | refine blk_drewN ?_ _ | refine blk_drew ?_ | refine blk_alloc ?_ _)); refine blk_far ?_ NB184_197.out _; (with_reducible repeat (first | refine blk_drewN ?_ _ | refine blk_drew ?_ | refine blk_alloc ?_ _)); exact BK184.out)) : gb198 ≠ gb184)); have n22_ := Aside0.mk ((by rw [hg]; exact Nat.ne_of_lt (blk_lt (g := gb187) (o := .cells #[.int .i64 t185, .int .i64 t186] 25 (0, 0)) (by (with_reducible repeat (first | refine blk_drewN ?_ _ | refine blk_drew ?_ | refine blk_alloc ?_ _)); refine blk_far ?_ NB187_197.out _; (with_reducible repeat (first | refine blk_drewN ?_ _ | refine blk_drew ?_ | refine blk_alloc ?_ _)); refine blk_far ?_ NB187_197.out _; (with_reducible repeat (first | refine blk_drewN ?_ _ | refine blk_drew ?_ | refine blk_alloc ?_ _)); exact BK187.out)) : gb187 ≠ gb198)); have n23_ := Aside0.mk ((by rw [hg]; exact Nat.ne_of_gt (blk_lt (g := gb187) (o := .cells #[.int .i64 t185, .int .i64 t186] 25 (0, 0)) (by (with_reducible repeat (first | refine blk_drewN ?_ _ | refine blk_drew ?_ | refine blk_alloc ?_ _)); refine blk_far ?_ NB187_197.out _; (with_reducible repeat (first | refine blk_drewN ?_ _ | refine blk_drew ?_ | refine blk_alloc ?_ _)); refine blk_far ?_ NB187_197.out _; (with_reducible repeat (first | refine blk_drewN ?_ _ | refine blk_drew ?_ | refine blk_alloc ?_ _)); exact BK187.out)) : gb198 ≠ gb187)); have n24_ := Aside0.mk ((by rw [hg]; exact Nat.ne_of_lt (blk_lt (g := gb193) (o := .cells #[.int .i64 t190, .int .i64 t191] 25 (0, 0)) (by (with_reducible repeat (first | refine blk_drewN ?_ _ | refine blk_drew ?_ | refine blk_alloc ?_ _)); refine blk_far ?_ NB193_197.out _; (with_reducible repeat (first | refine blk_drewN ?_ _ | refine blk_drew ?_ | refine blk_alloc ?_ _)); refine blk_far ?_ NB193_197.out _; (with_reducible repeat (first | refine blk_drewN ?_ _ | refine blk_drew ?_ | refine blk_alloc ?_ _)); exact BK193.out)) : gb193 ≠ gb198)); have n25_ := Aside0.mk ((by rw [hg]; exact Nat.ne_of_gt (blk_lt (g := gb193) (o := .cells #[.int .i64 t190, .int .i64 t191] 25 (0, 0)) (by (with_reducible repeat (first | refine blk_drewN ?_ _ | refine blk_drew ?_ | refine blk_alloc ?_ _)); refine blk_far ?_ NB193_197.out _; (with_reducible repeat (first | refine blk_drewN ?_ _ | refine blk_drew ?_ | refine blk_alloc ?_ _)); refine blk_far ?_ NB193_197.out _; (with_reducible repeat (first | refine blk_drewN ?_ _ | refine blk_drew ?_ | refine blk_alloc ?_ _)); exact BK193.out)) : gb198 ≠ gb193)); have n26_ := Aside0.mk ((by rw [hg]; exact Nat.ne_of_lt (blk_lt (g := gb197) (o := .cells #[.int .i64 t194, .int .i64 t195] 25 (0, 0)) (by (with_reducible repeat (first | refine blk_drewN ?_ _ | refine blk_drew ?_ | refine blk_alloc ?_ _)); refine blk_put (cs := #[.int .i64 t194, .int .i64 0]) ?_ 1 _ rfl; (with_reducible repeat (first | refine blk_drewN ?_ _ | refine blk_drew ?_ | refine blk_alloc ?_ _)); refine blk_put (cs := #[.int .i64 0, .int .i64 0]) ?_ 0 _ rfl; (with_reducible repeat (first | refine blk_drewN ?_ _ | refine blk_drew ?_ | refine blk_alloc ?_ _)); exact BK197.out)) : gb197 ≠ gb198)); have n27_ := Aside0.mk ((by rw [hg]; exact Nat.ne_of_gt (blk_lt (g := gb197) (o := .cells #[.int .i64 t194, .int .i64 t195] 25 (0, 0)) (by (with_reducible repeat (first | refine blk_drewN ?_ _ | refine blk_drew ?_ | refine blk_alloc ?_ _)); refine blk_put (cs := #[.int .i64 t194, .int .i64 0]) ?_ 1 _ rfl; (with_reducible repeat (first | refine blk_drewN ?_ _ | refine blk_drew ?_ | refine blk_alloc ?_ _)); refine blk_put (cs := #[.int .i64 0, .int .i64 0]) ?_ 0 _ rfl; (with_reducible repeat (first | refine blk_drewN ?_ _ | refine blk_drew ?_ | refine blk_alloc ?_ _)); exact BK197.out)) : gb198 ≠ gb197)); clear BK169; clear BK170; clear BK171; clear BK176; clear BK184; clear BK187; clear BK193; clear BK197; clear HB; have BK169 := n0_; have BK170 := n1_; have BK171 := n2_; have BK176 := n3_; have BK184 := n4_; have BK187 := n5_; have BK193 := n6_; have BK197 := n7_; have HB := n8_; have BK198 := n9_; have GW198 := n10_; have GE198 := n11_; have NB169_198 := n12_; have NB198_169 := n13_; have NB170_198 := n14_; have NB198_170 := n15_; have NB171_198 := n16_; have NB198_171 := n17_; have NB176_198 := n18_; have NB198_176 := n19_; have NB184_198 := n20_; have NB198_184 := n21_; have NB187_198 := n22_; have NB198_187 := n23_; have NB193_198 := n24_; have NB198_193 := n25_; have NB197_198 := n26_; have NB198_197 := n27_; clear n0_ n1_ n2_ n3_ n4_ n5_ n6_ n7_ n8_ n9_ n10_ n11_ n12_ n13_ n14_ n15_ n16_ n17_ n18_ n19_ n20_ n21_ n22_ n23_ n24_ n25_ n26_ n27_; clear hb hbox hg; have hnb149 := NB198_169.out; have hnc149 := NB169_198.out; have hnb150 := NB198_170.out; have hnc150 := NB170_198.out; have hnb151 := NB198_171.out; have hnc151 := NB171_198.out; have hnb152 := NB198_176.out; have hnc152 := NB176_198.out; have hnb153 := NB198_184.out; have hnc153 := NB184_198.out; have hnb154 := NB198_187.out; have hnc154 := NB187_198.out; have hnb155 := NB198_193.out; have hnc155 := NB193_198.out; have hnb156 := NB198_197.out; have hnc156 := NB197_198.out; have hcz157_0 : w148.cell? ⟨gb198, 0, none⟩ = some (.int .i64 0) := (blk_cell BK198.out 0).trans rfl; have hcz157_1 : w148.cell? ⟨gb198, 1, none⟩ = some (.int .i64 0) := (blk_cell BK198.out 1).trans rfl; have hfz157_0 := blk_frozen BK198.out 0; have hfz157_1 := blk_frozen BK198.out 1))
       (try simp only [Act.put, List.setIfInBounds_toArray, List.set_cons_zero, List.set_cons_succ])
       go_cut [148] (fun v148 wc => ∃ (kq : Nat) (x148_111 : Bool), v148 = .bool x148_111 ∧ Aside0 (oakumlaw10_LayoutApart.j2 kq a2_0 a2_1 t192 t196 x148_111 a1_0 a1_1 t190 t191 t194 t195 = some r) ∧ Aside0 (kq ≤ kj31) ∧ Aside0 (wc.heap[gb169]? = some (.cells #[.int .i64 a0_0, .int .i64 a0_1, .int .i64 a0_2] 49 (0, 0))) ∧ Aside0 (wc.heap[gb170]? = some (.cells #[.int .i64 a1_0, .int .i64 a1_1] 25 (0, 0))) ∧ Aside0 (wc.heap[gb171]? = some (.cells #[.int .i64 a2_0, .int .i64 a2_1] 59 (0, 0))) ∧ Aside0 (wc.heap[gb176]? = some (.cells #[.int .i64 t172, .int .i64 t173, .int .i64 t174] 51 (0, 0))) ∧ Aside0 (wc.heap[gb184]? = some (.cells #[.int .i64 t182, .int .i64 t183] 25 (0, 0))) ∧ Aside0 (wc.heap[gb187]? = some (.cells #[.int .i64 t185, .int .i64 t186] 25 (0, 0))) ∧ Aside0 (wc.heap[gb193]? = some (.cells #[.int .i64 t190, .int .i64 t191] 25 (0, 0))) ∧ Aside0 (wc.heap[gb197]? = some (.cells #[.int .i64 t194, .int .i64 t195] 25 (0, 0))) ∧ Aside0 (wc.heap[gb198]? = some (.cells #[.int .i64 t188, .int .i64 1] 25 (0, 0))) ∧ Aside0 (Below w.heap.size w wc))
       case first => as_aux_lemma =>
        have H := HC112.out
        clear HC112
        by_cases c158 : t189 = 0
        ·rw [if_pos c158] at H
         have c158b0 : (t189 == 0) = true := beq_iff_eq.mpr c158
         have c158b1 : (t189 != 0) = false := bne_eq_false_iff_eq.mpr c158
         clear c158
         (first | rw [c158b0] | (simp only [i64_w, i32_w]; rw [c158b0]) | skip)
         by_cases c159 : t188 ≤ a1_0
         ·rw [if_pos c159] at H
          have c159b0 : decide (t188 ≤ a1_0) = true := decide_eq_true c159
          clear c159
          have H' := Aside0.mk H
          clear H
          have hnb160 := NB170_169.out
          have hnc160 := NB169_170.out
          have hnb161 := NB170_171.out
          have hnc161 := NB171_170.out
          have hnb162 := NB170_176.out
          have hnc162 := NB176_170.out
          have hnb163 := NB170_184.out
          have hnc163 := NB184_170.out
          have hnb164 := NB170_187.out
          have hnc164 := NB187_170.out
          have hnb165 := NB170_193.out
          have hnc165 := NB193_170.out
          have hnb166 := NB170_197.out
          have hnc166 := NB197_170.out
          have hnb167 := NB170_198.out
          have hnc167 := NB198_170.out
          have hcz168_0 : w148.cell? ⟨gb170, 0, none⟩ = some (.int .i64 a1_0) := (blk_cell BK170.out 0).trans rfl
          have hcz168_1 : w148.cell? ⟨gb170, 1, none⟩ = some (.int .i64 a1_1) := (blk_cell BK170.out 1).trans rfl
          have hfz168_0 := blk_frozen BK170.out 0
          have hfz168_1 := blk_frozen BK170.out 1
          go_wp2
          go_meet
          case rel => exact ⟨_, (true), (by first | rfl | (simp; done) | (simp [*]; done)), H', ⟨by have := HJ4.out; have := HJ31.out; first | omega | exact Nat.le_refl _⟩, ⟨by (with_reducible repeat (first | refine blk_drewN ?_ _ | refine blk_drew ?_ | refine blk_alloc ?_ _)); refine blk_far ?_ NB169_198.out _; (with_reducible repeat (first | refine blk_drewN ?_ _ | refine blk_drew ?_ | refine blk_alloc ?_ _)); refine blk_far ?_ NB169_198.out _; (with_reducible repeat (first | refine blk_drewN ?_ _ | refine blk_drew ?_ | refine blk_alloc ?_ _)); exact BK169.out⟩, ⟨by (with_reducible repeat (first | refine blk_drewN ?_ _ | refine blk_drew ?_ | refine blk_alloc ?_ _)); refine blk_far ?_ NB170_198.out _; (with_reducible repeat (first | refine blk_drewN ?_ _ | refine blk_drew ?_ | refine blk_alloc ?_ _)); refine blk_far ?_ NB170_198.out _; (with_reducible repeat (first | refine blk_drewN ?_ _ | refine blk_drew ?_ | refine blk_alloc ?_ _)); exact BK170.out⟩, ⟨by (with_reducible repeat (first | refine blk_drewN ?_ _ | refine blk_drew ?_ | refine blk_alloc ?_ _)); refine blk_far ?_ NB171_198.out _; (with_reducible repeat (first | refine blk_drewN ?_ _ | refine blk_drew ?_ | refine blk_alloc ?_ _)); refine blk_far ?_ NB171_198.out _; (with_reducible repeat (first | refine blk_drewN ?_ _ | refine blk_drew ?_ | refine blk_alloc ?_ _)); exact BK171.out⟩, ⟨by (with_reducible repeat (first | refine blk_drewN ?_ _ | refine blk_drew ?_ | refine blk_alloc ?_ _)); refine blk_far ?_ NB176_198.out _; (with_reducible repeat (first | refine blk_drewN ?_ _ | refine blk_drew ?_ | refine blk_alloc ?_ _)); refine blk_far ?_ NB176_198.out _; (with_reducible repeat (first | refine blk_drewN ?_ _ | refine blk_drew ?_ | refine blk_alloc ?_ _)); exact BK176.out⟩, ⟨by (with_reducible repeat (first | refine blk_drewN ?_ _ | refine blk_drew ?_ | refine blk_alloc ?_ _)); refine blk_far ?_ NB184_198.out _; (with_reducible repeat (first | refine blk_drewN ?_ _ | refine blk_drew ?_ | refine blk_alloc ?_ _)); refine blk_far ?_ NB184_198.out _; (with_reducible repeat (first | refine blk_drewN ?_ _ | refine blk_drew ?_ | refine blk_alloc ?_ _)); exact BK184.out⟩, ⟨by (with_reducible repeat (first | refine blk_drewN ?_ _ | refine blk_drew ?_ | refine blk_alloc ?_ _)); refine blk_far ?_ NB187_198.out _; (with_reducible repeat (first | refine blk_drewN ?_ _ | refine blk_drew ?_ | refine blk_alloc ?_ _)); refine blk_far ?_ NB187_198.out _; (with_reducible repeat (first | refine blk_drewN ?_ _ | refine blk_drew ?_ | refine blk_alloc ?_ _)); exact BK187.out⟩, ⟨by (with_reducible repeat (first | refine blk_drewN ?_ _ | refine blk_drew ?_ | refine blk_alloc ?_ _)); refine blk_far ?_ NB193_198.out _; (with_reducible repeat (first | refine blk_drewN ?_ _ | refine blk_drew ?_ | refine blk_alloc ?_ _)); refine blk_far ?_ NB193_198.out _; (with_reducible repeat (first | refine blk_drewN ?_ _ | refine blk_drew ?_ | refine blk_alloc ?_ _)); exact BK193.out⟩, ⟨by (with_reducible repeat (first | refine blk_drewN ?_ _ | refine blk_drew ?_ | refine blk_alloc ?_ _)); refine blk_far ?_ NB197_198.out _; (with_reducible repeat (first | refine blk_drewN ?_ _ | refine blk_drew ?_ | refine blk_alloc ?_ _)); refine blk_far ?_ NB197_198.out _; (with_reducible repeat (first | refine blk_drewN ?_ _ | refine blk_drew ?_ | refine blk_alloc ?_ _)); exact BK197.out⟩, ⟨by (with_reducible repeat (first | refine blk_drewN ?_ _ | refine blk_drew ?_ | refine blk_alloc ?_ _)); refine blk_put (cs := #[.int .i64 t188, .int .i64 0]) ?_ 1 _ rfl; (with_reducible repeat (first | refine blk_drewN ?_ _ | refine blk_drew ?_ | refine blk_alloc ?_ _)); refine blk_put (cs := #[.int .i64 0, .int .i64 0]) ?_ 0 _ rfl; (with_reducible repeat (first | refine blk_drewN ?_ _ | refine blk_drew ?_ | refine blk_alloc ?_ _)); exact BK198.out⟩, ⟨by repeat (first | (with_reducible first | exact HB.out | apply below_alloc | apply pw_below_drewN | apply below_drew1 | refine below_set ?_ GE169.out | refine below_set ?_ GE170.out | refine below_set ?_ GE171.out | refine below_set ?_ GE176.out | refine below_set ?_ GE184.out | refine below_set ?_ GE187.out | refine below_set ?_ GE193.out | refine below_set ?_ GE197.out | refine below_set ?_ GE198.out) | exact HB.out)⟩⟩
         ·rw [if_neg c159] at H
          have c159b0 : decide (t188 ≤ a1_0) = false := decide_eq_false c159
          clear c159
          by_cases c169 : t188 ≥ (wrap64 (a1_0 + a1_1))
          ·rw [if_pos c169] at H
           have c169b0 : decide ((wrap64 (a1_0 + a1_1)) ≤ t188) = true := decide_eq_true c169
           clear c169
           have H' := Aside0.mk H
           clear H
           have hnb170 := NB170_169.out
           have hnc170 := NB169_170.out
           have hnb171 := NB170_171.out
           have hnc171 := NB171_170.out
           have hnb172 := NB170_176.out
           have hnc172 := NB176_170.out
           have hnb173 := NB170_184.out
           have hnc173 := NB184_170.out
           have hnb174 := NB170_187.out
           have hnc174 := NB187_170.out
           have hnb175 := NB170_193.out
           have hnc175 := NB193_170.out
           have hnb176 := NB170_197.out
           have hnc176 := NB197_170.out
           have hnb177 := NB170_198.out
           have hnc177 := NB198_170.out
           have hcz178_0 : w148.cell? ⟨gb170, 0, none⟩ = some (.int .i64 a1_0) := (blk_cell BK170.out 0).trans rfl
           have hcz178_1 : w148.cell? ⟨gb170, 1, none⟩ = some (.int .i64 a1_1) := (blk_cell BK170.out 1).trans rfl
           have hfz178_0 := blk_frozen BK170.out 0
           have hfz178_1 := blk_frozen BK170.out 1
           go_wp2
           go_meet
           case rel => exact ⟨_, (true), (by first | rfl | (simp; done) | (simp [*]; done)), H', ⟨by have := HJ4.out; have := HJ31.out; first | omega | exact Nat.le_refl _⟩, ⟨by (with_reducible repeat (first | refine blk_drewN ?_ _ | refine blk_drew ?_ | refine blk_alloc ?_ _)); refine blk_far ?_ NB169_198.out _; (with_reducible repeat (first | refine blk_drewN ?_ _ | refine blk_drew ?_ | refine blk_alloc ?_ _)); refine blk_far ?_ NB169_198.out _; (with_reducible repeat (first | refine blk_drewN ?_ _ | refine blk_drew ?_ | refine blk_alloc ?_ _)); exact BK169.out⟩, ⟨by (with_reducible repeat (first | refine blk_drewN ?_ _ | refine blk_drew ?_ | refine blk_alloc ?_ _)); refine blk_far ?_ NB170_198.out _; (with_reducible repeat (first | refine blk_drewN ?_ _ | refine blk_drew ?_ | refine blk_alloc ?_ _)); refine blk_far ?_ NB170_198.out _; (with_reducible repeat (first | refine blk_drewN ?_ _ | refine blk_drew ?_ | refine blk_alloc ?_ _)); exact BK170.out⟩, ⟨by (with_reducible repeat (first | refine blk_drewN ?_ _ | refine blk_drew ?_ | refine blk_alloc ?_ _)); refine blk_far ?_ NB171_198.out _; (with_reducible repeat (first | refine blk_drewN ?_ _ | refine blk_drew ?_ | refine blk_alloc ?_ _)); refine blk_far ?_ NB171_198.out _; (with_reducible repeat (first | refine blk_drewN ?_ _ | refine blk_drew ?_ | refine blk_alloc ?_ _)); exact BK171.out⟩, ⟨by (with_reducible repeat (first | refine blk_drewN ?_ _ | refine blk_drew ?_ | refine blk_alloc ?_ _)); refine blk_far ?_ NB176_198.out _; (with_reducible repeat (first | refine blk_drewN ?_ _ | refine blk_drew ?_ | refine blk_alloc ?_ _)); refine blk_far ?_ NB176_198.out _; (with_reducible repeat (first | refine blk_drewN ?_ _ | refine blk_drew ?_ | refine blk_alloc ?_ _)); exact BK176.out⟩, ⟨by (with_reducible repeat (first | refine blk_drewN ?_ _ | refine blk_drew ?_ | refine blk_alloc ?_ _)); refine blk_far ?_ NB184_198.out _; (with_reducible repeat (first | refine blk_drewN ?_ _ | refine blk_drew ?_ | refine blk_alloc ?_ _)); refine blk_far ?_ NB184_198.out _; (with_reducible repeat (first | refine blk_drewN ?_ _ | refine blk_drew ?_ | refine blk_alloc ?_ _)); exact BK184.out⟩, ⟨by (with_reducible repeat (first | refine blk_drewN ?_ _ | refine blk_drew ?_ | refine blk_alloc ?_ _)); refine blk_far ?_ NB187_198.out _; (with_reducible repeat (first | refine blk_drewN ?_ _ | refine blk_drew ?_ | refine blk_alloc ?_ _)); refine blk_far ?_ NB187_198.out _; (with_reducible repeat (first | refine blk_drewN ?_ _ | refine blk_drew ?_ | refine blk_alloc ?_ _)); exact BK187.out⟩, ⟨by (with_reducible repeat (first | refine blk_drewN ?_ _ | refine blk_drew ?_ | refine blk_alloc ?_ _)); refine blk_far ?_ NB193_198.out _; (with_reducible repeat (first | refine blk_drewN ?_ _ | refine blk_drew ?_ | refine blk_alloc ?_ _)); refine blk_far ?_ NB193_198.out _; (with_reducible repeat (first | refine blk_drewN ?_ _ | refine blk_drew ?_ | refine blk_alloc ?_ _)); exact BK193.out⟩, ⟨by (with_reducible repeat (first | refine blk_drewN ?_ _ | refine blk_drew ?_ | refine blk_alloc ?_ _)); refine blk_far ?_ NB197_198.out _; (with_reducible repeat (first | refine blk_drewN ?_ _ | refine blk_drew ?_ | refine blk_alloc ?_ _)); refine blk_far ?_ NB197_198.out _; (with_reducible repeat (first | refine blk_drewN ?_ _ | refine blk_drew ?_ | refine blk_alloc ?_ _)); exact BK197.out⟩, ⟨by (with_reducible repeat (first | refine blk_drewN ?_ _ | refine blk_drew ?_ | refine blk_alloc ?_ _)); refine blk_put (cs := #[.int .i64 t188, .int .i64 0]) ?_ 1 _ rfl; (with_reducible repeat (first | refine blk_drewN ?_ _ | refine blk_drew ?_ | refine blk_alloc ?_ _)); refine blk_put (cs := #[.int .i64 0, .int .i64 0]) ?_ 0 _ rfl; (with_reducible repeat (first | refine blk_drewN ?_ _ | refine blk_drew ?_ | refine blk_alloc ?_ _)); exact BK198.out⟩, ⟨by repeat (first | (with_reducible first | exact HB.out | apply below_alloc | apply pw_below_drewN | apply below_drew1 | refine below_set ?_ GE169.out | refine below_set ?_ GE170.out | refine below_set ?_ GE171.out | refine below_set ?_ GE176.out | refine below_set ?_ GE184.out | refine below_set ?_ GE187.out | refine below_set ?_ GE193.out | refine below_set ?_ GE197.out | refine below_set ?_ GE198.out) | exact HB.out)⟩⟩
          ·rw [if_neg c169] at H
           have c169b0 : decide ((wrap64 (a1_0 + a1_1)) ≤ t188) = false := decide_eq_false c169
           clear c169
           by_cases c179 : t192 = 0
           ·rw [if_pos c179] at H
            have c179b0 : (t192 == 0) = true := beq_iff_eq.mpr c179
            have c179b1 : (t192 != 0) = false := bne_eq_false_iff_eq.mpr c179
            clear c179
            replace H := Option.bind_eq_some_iff.mp H
            obtain ⟨t199, A1800, H⟩ := H
            replace H : (if t199 = true then (if t196 = 0 then ((oakumlaw10_apart.f t188 1 t194 t195).bind fun t200 => (oakumlaw10_LayoutApart.j2 kj31 a2_0 a2_1 t192 t196 (!t200) a1_0 a1_1 t190 t191 t194 t195)) else (oakumlaw10_LayoutApart.j2 kj31 a2_0 a2_1 t192 t196 false a1_0 a1_1 t190 t191 t194 t195)) else (oakumlaw10_LayoutApart.j2 kj31 a2_0 a2_1 t192 t196 true a1_0 a1_1 t190 t191 t194 t195)) = some r := H
            have A180 := Aside0.mk A1800
            clear A1800
            by_cases c181 : t199 = true
            ·subst c181
             have H1 : (if t196 = 0 then ((oakumlaw10_apart.f t188 1 t194 t195).bind fun t200 => (oakumlaw10_LayoutApart.j2 kj31 a2_0 a2_1 t192 t196 (!t200) a1_0 a1_1 t190 t191 t194 t195)) else (oakumlaw10_LayoutApart.j2 kj31 a2_0 a2_1 t192 t196 false a1_0 a1_1 t190 t191 t194 t195)) = some r := by rw [if_pos rfl] at H; exact H
             clear H
             have H := H1
             clear H1
             by_cases c182 : t196 = 0
             ·rw [if_pos c182] at H
              have c182b0 : (t196 == 0) = true := beq_iff_eq.mpr c182
              have c182b1 : (t196 != 0) = false := bne_eq_false_iff_eq.mpr c182
              clear c182
              replace H := Option.bind_eq_some_iff.mp H
              obtain ⟨t200, A1830, H⟩ := H
              replace H : (oakumlaw10_LayoutApart.j2 kj31 a2_0 a2_1 t192 t196 (!t200) a1_0 a1_1 t190 t191 t194 t195) = some r := H
              have A183 := Aside0.mk A1830
              clear A1830
              have H' := Aside0.mk H
              clear H
              have hnb184 := NB170_169.out
              have hnc184 := NB169_170.out
              have hnb185 := NB170_171.out
              have hnc185 := NB171_170.out
              have hnb186 := NB170_176.out
              have hnc186 := NB176_170.out
              have hnb187 := NB170_184.out
              have hnc187 := NB184_170.out
              have hnb188 := NB170_187.out
              have hnc188 := NB187_170.out
              have hnb189 := NB170_193.out
              have hnc189 := NB193_170.out
              have hnb190 := NB170_197.out
              have hnc190 := NB197_170.out
              have hnb191 := NB170_198.out
              have hnc191 := NB198_170.out
              have hcz192_0 : w148.cell? ⟨gb170, 0, none⟩ = some (.int .i64 a1_0) := (blk_cell BK170.out 0).trans rfl
              have hcz192_1 : w148.cell? ⟨gb170, 1, none⟩ = some (.int .i64 a1_1) := (blk_cell BK170.out 1).trans rfl
              have hfz192_0 := blk_frozen BK170.out 0
              have hfz192_1 := blk_frozen BK170.out 1
              have hnb193 := NB198_169.out
              have hnc193 := NB169_198.out
              have hnb194 := NB198_171.out
              have hnc194 := NB171_198.out
              have hnb195 := NB198_176.out
              have hnc195 := NB176_198.out
              have hnb196 := NB198_184.out
              have hnc196 := NB184_198.out
              have hnb197 := NB198_187.out
              have hnc197 := NB187_198.out
              have hnb198 := NB198_193.out
              have hnc198 := NB193_198.out
              have hnb199 := NB198_197.out
              have hnc199 := NB197_198.out
              have hcz200_0 : w148.cell? ⟨gb198, 0, none⟩ = some (.int .i64 0) := (blk_cell BK198.out 0).trans rfl
              have hcz200_1 : w148.cell? ⟨gb198, 1, none⟩ = some (.int .i64 0) := (blk_cell BK198.out 1).trans rfl
              have hfz200_0 := blk_frozen BK198.out 0
              have hfz200_1 := blk_frozen BK198.out 1
              have hnb201 := NB193_169.out
              have hnc201 := NB169_193.out
              have hnb202 := NB193_171.out
              have hnc202 := NB171_193.out
              have hnb203 := NB193_176.out
              have hnc203 := NB176_193.out
              have hnb204 := NB193_184.out
              have hnc204 := NB184_193.out
              have hnb205 := NB193_187.out
              have hnc205 := NB187_193.out
              have hnb206 := NB193_197.out
              have hnc206 := NB197_193.out
              have hcz207_0 : w148.cell? ⟨gb193, 0, none⟩ = some (.int .i64 t190) := (blk_cell BK193.out 0).trans rfl
              have hcz207_1 : w148.cell? ⟨gb193, 1, none⟩ = some (.int .i64 t191) := (blk_cell BK193.out 1).trans rfl
              have hfz207_0 := blk_frozen BK193.out 0
              have hfz207_1 := blk_frozen BK193.out 1
              go_wp2_with (first | (go_at_call 36; (with_reducible refine (oakumlaw10_apart.calls t188 1 t190 t191 true _ A180.out).mono ?_); rintro e w208 ⟨rfl, hb⟩; have n0_ := Aside0.mk (blk_below (g := gb169) (o := .cells #[.int .i64 a0_0, .int .i64 a0_1, .int .i64 a0_2] 49 (0, 0)) (by (with_reducible repeat (first | refine blk_drewN ?_ _ | refine blk_drew ?_ | refine blk_alloc ?_ _)); refine blk_far ?_ NB169_198.out _; (with_reducible repeat (first | refine blk_drewN ?_ _ | refine blk_drew ?_ | refine blk_alloc ?_ _)); refine blk_far ?_ NB169_198.out _; (with_reducible repeat (first | refine blk_drewN ?_ _ | refine blk_drew ?_ | refine blk_alloc ?_ _)); exact BK169.out) hb); have n1_ := Aside0.mk (blk_below (g := gb170) (o := .cells #[.int .i64 a1_0, .int .i64 a1_1] 25 (0, 0)) (by (with_reducible repeat (first | refine blk_drewN ?_ _ | refine blk_drew ?_ | refine blk_alloc ?_ _)); refine blk_far ?_ NB170_198.out _; (with_reducible repeat (first | refine blk_drewN ?_ _ | refine blk_drew ?_ | refine blk_alloc ?_ _)); refine blk_far ?_ NB170_198.out _; (with_reducible repeat (first | refine blk_drewN ?_ _ | refine blk_drew ?_ | refine blk_alloc ?_ _)); exact BK170.out) hb); have n2_ := Aside0.mk (blk_below (g := gb171) (o := .cells #[.int .i64 a2_0, .int .i64 a2_1] 59 (0, 0)) (by (with_reducible repeat (first | refine blk_drewN ?_ _ | refine blk_drew ?_ | refine blk_alloc ?_ _)); refine blk_far ?_ NB171_198.out _; (with_reducible repeat (first | refine blk_drewN ?_ _ | refine blk_drew ?_ | refine blk_alloc ?_ _)); refine blk_far ?_ NB171_198.out _; (with_reducible repeat (first | refine blk_drewN ?_ _ | refine blk_drew ?_ | refine blk_alloc ?_ _)); exact BK171.out) hb); have n3_ := Aside0.mk (blk_below (g := gb176) (o := .cells #[.int .i64 t172, .int .i64 t173, .int .i64 t174] 51 (0, 0)) (by (with_reducible repeat (first | refine blk_drewN ?_ _ | refine blk_drew ?_ | refine blk_alloc ?_ _)); refine blk_far ?_ NB176_198.out _; (with_reducible repeat (first | refine blk_drewN ?_ _ | refine blk_drew ?_ | refine blk_alloc ?_ _)); refine blk_far ?_ NB176_198.out _; (with_reducible repeat (first | refine blk_drewN ?_ _ | refine blk_drew ?_ | refine blk_alloc ?_ _)); exact BK176.out) hb); have n4_ := Aside0.mk (blk_below (g := gb184) (o := .cells #[.int .i64 t182, .int .i64 t183] 25 (0, 0)) (by (with_reducible repeat (first | refine blk_drewN ?_ _ | refine blk_drew ?_ | refine blk_alloc ?_ _)); refine blk_far ?_ NB184_198.out _; (with_reducible repeat (first | refine blk_drewN ?_ _ | refine blk_drew ?_ | refine blk_alloc ?_ _)); refine blk_far ?_ NB184_198.out _; (with_reducible repeat (first | refine blk_drewN ?_ _ | refine blk_drew ?_ | refine blk_alloc ?_ _)); exact BK184.out) hb); have n5_ := Aside0.mk (blk_below (g := gb187) (o := .cells #[.int .i64 t185, .int .i64 t186] 25 (0, 0)) (by (with_reducible repeat (first | refine blk_drewN ?_ _ | refine blk_drew ?_ | refine blk_alloc ?_ _)); refine blk_far ?_ NB187_198.out _; (with_reducible repeat (first | refine blk_drewN ?_ _ | refine blk_drew ?_ | refine blk_alloc ?_ _)); refine blk_far ?_ NB187_198.out _; (with_reducible repeat (first | refine blk_drewN ?_ _ | refine blk_drew ?_ | refine blk_alloc ?_ _)); exact BK187.out) hb); have n6_ := Aside0.mk (blk_below (g := gb193) (o := .cells #[.int .i64 t190, .int .i64 t191] 25 (0, 0)) (by (with_reducible repeat (first | refine blk_drewN ?_ _ | refine blk_drew ?_ | refine blk_alloc ?_ _)); refine blk_far ?_ NB193_198.out _; (with_reducible repeat (first | refine blk_drewN ?_ _ | refine blk_drew ?_ | refine blk_alloc ?_ _)); refine blk_far ?_ NB193_198.out _; (with_reducible repeat (first | refine blk_drewN ?_ _ | refine blk_drew ?_ | refine blk_alloc ?_ _)); exact BK193.out) hb); have n7_ := Aside0.mk (blk_below (g := gb197) (o := .cells #[.int .i64 t194, .int .i64 t195] 25 (0, 0)) (by (with_reducible repeat (first | refine blk_drewN ?_ _ | refine blk_drew ?_ | refine blk_alloc ?_ _)); refine blk_far ?_ NB197_198.out _; (with_reducible repeat (first | refine blk_drewN ?_ _ | refine blk_drew ?_ | refine blk_alloc ?_ _)); refine blk_far ?_ NB197_198.out _; (with_reducible repeat (first | refine blk_drewN ?_ _ | refine blk_drew ?_ | refine blk_alloc ?_ _)); exact BK197.out) hb); have n8_ := Aside0.mk (blk_below (g := gb198) (o := .cells #[.int .i64 t188, .int .i64 1] 25 (0, 0)) (by (with_reducible repeat (first | refine blk_drewN ?_ _ | refine blk_drew ?_ | refine blk_alloc ?_ _)); refine blk_put (cs := #[.int .i64 t188, .int .i64 0]) ?_ 1 _ rfl; (with_reducible repeat (first | refine blk_drewN ?_ _ | refine blk_drew ?_ | refine blk_alloc ?_ _)); refine blk_put (cs := #[.int .i64 0, .int .i64 0]) ?_ 0 _ rfl; (with_reducible repeat (first | refine blk_drewN ?_ _ | refine blk_drew ?_ | refine blk_alloc ?_ _)); exact BK198.out) hb); have n9_ := Aside0.mk (below_step (by repeat (first | (with_reducible first | exact HB.out | apply below_alloc | apply pw_below_drewN | apply below_drew1 | refine below_set ?_ GE169.out | refine below_set ?_ GE170.out | refine below_set ?_ GE171.out | refine below_set ?_ GE176.out | refine below_set ?_ GE184.out | refine below_set ?_ GE187.out | refine below_set ?_ GE193.out | refine below_set ?_ GE197.out | refine below_set ?_ GE198.out) | exact HB.out)) hb); clear BK169; clear BK170; clear BK171; clear BK176; clear BK184; clear BK187; clear BK193; clear BK197; clear BK198; clear HB; have BK169 := n0_; have BK170 := n1_; have BK171 := n2_; have BK176 := n3_; have BK184 := n4_; have BK187 := n5_; have BK193 := n6_; have BK197 := n7_; have BK198 := n8_; have HB := n9_; clear n0_ n1_ n2_ n3_ n4_ n5_ n6_ n7_ n8_ n9_; (try clear hb); (try clear hb2); (try clear hk); (try clear hi); have hcz209_0 : w208.cell? ⟨gb198, 0, none⟩ = some (.int .i64 t188) := (blk_cell BK198.out 0).trans rfl; have hcz209_1 : w208.cell? ⟨gb198, 1, none⟩ = some (.int .i64 1) := (blk_cell BK198.out 1).trans rfl; have hfz209_0 := blk_frozen BK198.out 0; have hfz209_1 := blk_frozen BK198.out 1; have hnb210 := NB197_169.out; have hnc210 := NB169_197.out; have hnb211 := NB197_171.out; have hnc211 := NB171_197.out; have hnb212 := NB197_176.out; have hnc212 := NB176_197.out; have hnb213 := NB197_184.out; have hnc213 := NB184_197.out; have hnb214 := NB197_187.out; have hnc214 := NB187_197.out; have hcz215_0 : w208.cell? ⟨gb197, 0, none⟩ = some (.int .i64 t194) := (blk_cell BK197.out 0).trans rfl; have hcz215_1 : w208.cell? ⟨gb197, 1, none⟩ = some (.int .i64 t195) := (blk_cell BK197.out 1).trans rfl; have hfz215_0 := blk_frozen BK197.out 0; have hfz215_1 := blk_frozen BK197.out 1) | (go_at_call 36; (with_reducible refine (oakumlaw10_apart.calls t188 1 t194 t195 t200 _ A183.out).mono ?_); rintro e w216 ⟨rfl, hb⟩; have n0_ := Aside0.mk (blk_below (g := gb169) (o := .cells #[.int .i64 a0_0, .int .i64 a0_1, .int .i64 a0_2] 49 (0, 0)) (by (with_reducible repeat (first | refine blk_drewN ?_ _ | refine blk_drew ?_ | refine blk_alloc ?_ _)); exact BK169.out) hb); have n1_ := Aside0.mk (blk_below (g := gb170) (o := .cells #[.int .i64 a1_0, .int .i64 a1_1] 25 (0, 0)) (by (with_reducible repeat (first | refine blk_drewN ?_ _ | refine blk_drew ?_ | refine blk_alloc ?_ _)); exact BK170.out) hb); have n2_ := Aside0.mk (blk_below (g := gb171) (o := .cells #[.int .i64 a2_0, .int .i64 a2_1] 59 (0, 0)) (by (with_reducible repeat (first | refine blk_drewN ?_ _ | refine blk_drew ?_ | refine blk_alloc ?_ _)); exact BK171.out) hb); have n3_ := Aside0.mk (blk_below (g := gb176) (o := .cells #[.int .i64 t172, .int .i64 t173, .int .i64 t174] 51 (0, 0)) (by (with_reducible repeat (first | refine blk_drewN ?_ _ | refine blk_drew ?_ | refine blk_alloc ?_ _)); exact BK176.out) hb); have n4_ := Aside0.mk (blk_below (g := gb184) (o := .cells #[.int .i64 t182, .int .i64 t183] 25 (0, 0)) (by (with_reducible repeat (first | refine blk_drewN ?_ _ | refine blk_drew ?_ | refine blk_alloc ?_ _)); exact BK184.out) hb); have n5_ := Aside0.mk (blk_below (g := gb187) (o := .cells #[.int .i64 t185, .int .i64 t186] 25 (0, 0)) (by (with_reducible repeat (first | refine blk_drewN ?_ _ | refine blk_drew ?_ | refine blk_alloc ?_ _)); exact BK187.out) hb); have n6_ := Aside0.mk (blk_below (g := gb193) (o := .cells #[.int .i64 t190, .int .i64 t191] 25 (0, 0)) (by (with_reducible repeat (first | refine blk_drewN ?_ _ | refine blk_drew ?_ | refine blk_alloc ?_ _)); exact BK193.out) hb); have n7_ := Aside0.mk (blk_below (g := gb197) (o := .cells #[.int .i64 t194, .int .i64 t195] 25 (0, 0)) (by (with_reducible repeat (first | refine blk_drewN ?_ _ | refine blk_drew ?_ | refine blk_alloc ?_ _)); exact BK197.out) hb); have n8_ := Aside0.mk (blk_below (g := gb198) (o := .cells #[.int .i64 t188, .int .i64 1] 25 (0, 0)) (by (with_reducible repeat (first | refine blk_drewN ?_ _ | refine blk_drew ?_ | refine blk_alloc ?_ _)); exact BK198.out) hb); have n9_ := Aside0.mk (below_step (by repeat (first | (with_reducible first | exact HB.out | apply below_alloc | apply pw_below_drewN | apply below_drew1 | refine below_set ?_ GE169.out | refine below_set ?_ GE170.out | refine below_set ?_ GE171.out | refine below_set ?_ GE176.out | refine below_set ?_ GE184.out | refine below_set ?_ GE187.out | refine below_set ?_ GE193.out | refine below_set ?_ GE197.out | refine below_set ?_ GE198.out) | exact HB.out)) hb); clear BK169; clear BK170; clear BK171; clear BK176; clear BK184; clear BK187; clear BK193; clear BK197; clear BK198; clear HB; have BK169 := n0_; have BK170 := n1_; have BK171 := n2_; have BK176 := n3_; have BK184 := n4_; have BK187 := n5_; have BK193 := n6_; have BK197 := n7_; have BK198 := n8_; have HB := n9_; clear n0_ n1_ n2_ n3_ n4_ n5_ n6_ n7_ n8_ n9_; (try clear hb); (try clear hb2); (try clear hk); (try clear hi)))
              go_meet
              case rel => exact ⟨_, (!t200), (by first | rfl | (simp; done) | (simp [*]; done)), H', ⟨by have := HJ4.out; have := HJ31.out; first | omega | exact Nat.le_refl _⟩, ⟨by (with_reducible repeat (first | refine blk_drewN ?_ _ | refine blk_drew ?_ | refine blk_alloc ?_ _)); exact BK169.out⟩, ⟨by (with_reducible repeat (first | refine blk_drewN ?_ _ | refine blk_drew ?_ | refine blk_alloc ?_ _)); exact BK170.out⟩, ⟨by (with_reducible repeat (first | refine blk_drewN ?_ _ | refine blk_drew ?_ | refine blk_alloc ?_ _)); exact BK171.out⟩, ⟨by (with_reducible repeat (first | refine blk_drewN ?_ _ | refine blk_drew ?_ | refine blk_alloc ?_ _)); exact BK176.out⟩, ⟨by (with_reducible repeat (first | refine blk_drewN ?_ _ | refine blk_drew ?_ | refine blk_alloc ?_ _)); exact BK184.out⟩, ⟨by (with_reducible repeat (first | refine blk_drewN ?_ _ | refine blk_drew ?_ | refine blk_alloc ?_ _)); exact BK187.out⟩, ⟨by (with_reducible repeat (first | refine blk_drewN ?_ _ | refine blk_drew ?_ | refine blk_alloc ?_ _)); exact BK193.out⟩, ⟨by (with_reducible repeat (first | refine blk_drewN ?_ _ | refine blk_drew ?_ | refine blk_alloc ?_ _)); exact BK197.out⟩, ⟨by (with_reducible repeat (first | refine blk_drewN ?_ _ | refine blk_drew ?_ | refine blk_alloc ?_ _)); exact BK198.out⟩, ⟨by repeat (first | (with_reducible first | exact HB.out | apply below_alloc | apply pw_below_drewN | apply below_drew1 | refine below_set ?_ GE169.out | refine below_set ?_ GE170.out | refine below_set ?_ GE171.out | refine below_set ?_ GE176.out | refine below_set ?_ GE184.out | refine below_set ?_ GE187.out | refine below_set ?_ GE193.out | refine below_set ?_ GE197.out | refine below_set ?_ GE198.out) | exact HB.out)⟩⟩
             ·rw [if_neg c182] at H
              have c182b0 : (t196 == 0) = false := beq_eq_false_iff_ne.mpr c182
              have c182b1 : (t196 != 0) = true := bne_iff_ne.mpr c182
              have H' := Aside0.mk H
              clear H
              have hnb217 := NB170_169.out
              have hnc217 := NB169_170.out
              have hnb218 := NB170_171.out
              have hnc218 := NB171_170.out
              have hnb219 := NB170_176.out
              have hnc219 := NB176_170.out
              have hnb220 := NB170_184.out
              have hnc220 := NB184_170.out
              have hnb221 := NB170_187.out
              have hnc221 := NB187_170.out
              have hnb222 := NB170_193.out
              have hnc222 := NB193_170.out
              have hnb223 := NB170_197.out
              have hnc223 := NB197_170.out
              have hnb224 := NB170_198.out
              have hnc224 := NB198_170.out
              have hcz225_0 : w148.cell? ⟨gb170, 0, none⟩ = some (.int .i64 a1_0) := (blk_cell BK170.out 0).trans rfl
              have hcz225_1 : w148.cell? ⟨gb170, 1, none⟩ = some (.int .i64 a1_1) := (blk_cell BK170.out 1).trans rfl
              have hfz225_0 := blk_frozen BK170.out 0
              have hfz225_1 := blk_frozen BK170.out 1
              have hnb226 := NB198_169.out
              have hnc226 := NB169_198.out
              have hnb227 := NB198_171.out
              have hnc227 := NB171_198.out
              have hnb228 := NB198_176.out
              have hnc228 := NB176_198.out
              have hnb229 := NB198_184.out
              have hnc229 := NB184_198.out
              have hnb230 := NB198_187.out
              have hnc230 := NB187_198.out
              have hnb231 := NB198_193.out
              have hnc231 := NB193_198.out
              have hnb232 := NB198_197.out
              have hnc232 := NB197_198.out
              have hcz233_0 : w148.cell? ⟨gb198, 0, none⟩ = some (.int .i64 0) := (blk_cell BK198.out 0).trans rfl
              have hcz233_1 : w148.cell? ⟨gb198, 1, none⟩ = some (.int .i64 0) := (blk_cell BK198.out 1).trans rfl
              have hfz233_0 := blk_frozen BK198.out 0
              have hfz233_1 := blk_frozen BK198.out 1
              have hnb234 := NB193_169.out
              have hnc234 := NB169_193.out
              have hnb235 := NB193_171.out
              have hnc235 := NB171_193.out
              have hnb236 := NB193_176.out
              have hnc236 := NB176_193.out
              have hnb237 := NB193_184.out
              have hnc237 := NB184_193.out
              have hnb238 := NB193_187.out
              have hnc238 := NB187_193.out
              have hnb239 := NB193_197.out
              have hnc239 := NB197_193.out
              have hcz240_0 : w148.cell? ⟨gb193, 0, none⟩ = some (.int .i64 t190) := (blk_cell BK193.out 0).trans rfl
              have hcz240_1 : w148.cell? ⟨gb193, 1, none⟩ = some (.int .i64 t191) := (blk_cell BK193.out 1).trans rfl
              have hfz240_0 := blk_frozen BK193.out 0
              have hfz240_1 := blk_frozen BK193.out 1
              go_wp2_with (first | (go_at_call 36; (with_reducible refine (oakumlaw10_apart.calls t188 1 t190 t191 true _ A180.out).mono ?_); rintro e w241 ⟨rfl, hb⟩; have n0_ := Aside0.mk (blk_below (g := gb169) (o := .cells #[.int .i64 a0_0, .int .i64 a0_1, .int .i64 a0_2] 49 (0, 0)) (by (with_reducible repeat (first | refine blk_drewN ?_ _ | refine blk_drew ?_ | refine blk_alloc ?_ _)); refine blk_far ?_ NB169_198.out _; (with_reducible repeat (first | refine blk_drewN ?_ _ | refine blk_drew ?_ | refine blk_alloc ?_ _)); refine blk_far ?_ NB169_198.out _; (with_reducible repeat (first | refine blk_drewN ?_ _ | refine blk_drew ?_ | refine blk_alloc ?_ _)); exact BK169.out) hb); have n1_ := Aside0.mk (blk_below (g := gb170) (o := .cells #[.int .i64 a1_0, .int .i64 a1_1] 25 (0, 0)) (by (with_reducible repeat (first | refine blk_drewN ?_ _ | refine blk_drew ?_ | refine blk_alloc ?_ _)); refine blk_far ?_ NB170_198.out _; (with_reducible repeat (first | refine blk_drewN ?_ _ | refine blk_drew ?_ | refine blk_alloc ?_ _)); refine blk_far ?_ NB170_198.out _; (with_reducible repeat (first | refine blk_drewN ?_ _ | refine blk_drew ?_ | refine blk_alloc ?_ _)); exact BK170.out) hb); have n2_ := Aside0.mk (blk_below (g := gb171) (o := .cells #[.int .i64 a2_0, .int .i64 a2_1] 59 (0, 0)) (by (with_reducible repeat (first | refine blk_drewN ?_ _ | refine blk_drew ?_ | refine blk_alloc ?_ _)); refine blk_far ?_ NB171_198.out _; (with_reducible repeat (first | refine blk_drewN ?_ _ | refine blk_drew ?_ | refine blk_alloc ?_ _)); refine blk_far ?_ NB171_198.out _; (with_reducible repeat (first | refine blk_drewN ?_ _ | refine blk_drew ?_ | refine blk_alloc ?_ _)); exact BK171.out) hb); have n3_ := Aside0.mk (blk_below (g := gb176) (o := .cells #[.int .i64 t172, .int .i64 t173, .int .i64 t174] 51 (0, 0)) (by (with_reducible repeat (first | refine blk_drewN ?_ _ | refine blk_drew ?_ | refine blk_alloc ?_ _)); refine blk_far ?_ NB176_198.out _; (with_reducible repeat (first | refine blk_drewN ?_ _ | refine blk_drew ?_ | refine blk_alloc ?_ _)); refine blk_far ?_ NB176_198.out _; (with_reducible repeat (first | refine blk_drewN ?_ _ | refine blk_drew ?_ | refine blk_alloc ?_ _)); exact BK176.out) hb); have n4_ := Aside0.mk (blk_below (g := gb184) (o := .cells #[.int .i64 t182, .int .i64 t183] 25 (0, 0)) (by (with_reducible repeat (first | refine blk_drewN ?_ _ | refine blk_drew ?_ | refine blk_alloc ?_ _)); refine blk_far ?_ NB184_198.out _; (with_reducible repeat (first | refine blk_drewN ?_ _ | refine blk_drew ?_ | refine blk_alloc ?_ _)); refine blk_far ?_ NB184_198.out _; (with_reducible repeat (first | refine blk_drewN ?_ _ | refine blk_drew ?_ | refine blk_alloc ?_ _)); exact BK184.out) hb); have n5_ := Aside0.mk (blk_below (g := gb187) (o := .cells #[.int .i64 t185, .int .i64 t186] 25 (0, 0)) (by (with_reducible repeat (first | refine blk_drewN ?_ _ | refine blk_drew ?_ | refine blk_alloc ?_ _)); refine blk_far ?_ NB187_198.out _; (with_reducible repeat (first | refine blk_drewN ?_ _ | refine blk_drew ?_ | refine blk_alloc ?_ _)); refine blk_far ?_ NB187_198.out _; (with_reducible repeat (first | refine blk_drewN ?_ _ | refine blk_drew ?_ | refine blk_alloc ?_ _)); exact BK187.out) hb); have n6_ := Aside0.mk (blk_below (g := gb193) (o := .cells #[.int .i64 t190, .int .i64 t191] 25 (0, 0)) (by (with_reducible repeat (first | refine blk_drewN ?_ _ | refine blk_drew ?_ | refine blk_alloc ?_ _)); refine blk_far ?_ NB193_198.out _; (with_reducible repeat (first | refine blk_drewN ?_ _ | refine blk_drew ?_ | refine blk_alloc ?_ _)); refine blk_far ?_ NB193_198.out _; (with_reducible repeat (first | refine blk_drewN ?_ _ | refine blk_drew ?_ | refine blk_alloc ?_ _)); exact BK193.out) hb); have n7_ := Aside0.mk (blk_below (g := gb197) (o := .cells #[.int .i64 t194, .int .i64 t195] 25 (0, 0)) (by (with_reducible repeat (first | refine blk_drewN ?_ _ | refine blk_drew ?_ | refine blk_alloc ?_ _)); refine blk_far ?_ NB197_198.out _; (with_reducible repeat (first | refine blk_drewN ?_ _ | refine blk_drew ?_ | refine blk_alloc ?_ _)); refine blk_far ?_ NB197_198.out _; (with_reducible repeat (first | refine blk_drewN ?_ _ | refine blk_drew ?_ | refine blk_alloc ?_ _)); exact BK197.out) hb); have n8_ := Aside0.mk (blk_below (g := gb198) (o := .cells #[.int .i64 t188, .int .i64 1] 25 (0, 0)) (by (with_reducible repeat (first | refine blk_drewN ?_ _ | refine blk_drew ?_ | refine blk_alloc ?_ _)); refine blk_put (cs := #[.int .i64 t188, .int .i64 0]) ?_ 1 _ rfl; (with_reducible repeat (first | refine blk_drewN ?_ _ | refine blk_drew ?_ | refine blk_alloc ?_ _)); refine blk_put (cs := #[.int .i64 0, .int .i64 0]) ?_ 0 _ rfl; (with_reducible repeat (first | refine blk_drewN ?_ _ | refine blk_drew ?_ | refine blk_alloc ?_ _)); exact BK198.out) hb); have n9_ := Aside0.mk (below_step (by repeat (first | (with_reducible first | exact HB.out | apply below_alloc | apply pw_below_drewN | apply below_drew1 | refine below_set ?_ GE169.out | refine below_set ?_ GE170.out | refine below_set ?_ GE171.out | refine below_set ?_ GE176.out | refine below_set ?_ GE184.out | refine below_set ?_ GE187.out | refine below_set ?_ GE193.out | refine below_set ?_ GE197.out | refine below_set ?_ GE198.out) | exact HB.out)) hb); clear BK169; clear BK170; clear BK171; clear BK176; clear BK184; clear BK187; clear BK193; clear BK197; clear BK198; clear HB; have BK169 := n0_; have BK170 := n1_; have BK171 := n2_; have BK176 := n3_; have BK184 := n4_; have BK187 := n5_; have BK193 := n6_; have BK197 := n7_; have BK198 := n8_; have HB := n9_; clear n0_ n1_ n2_ n3_ n4_ n5_ n6_ n7_ n8_ n9_; (try clear hb); (try clear hb2); (try clear hk); (try clear hi)))
              go_meet
              case rel => exact ⟨_, (false), (by first | rfl | (simp; done) | (simp [*]; done)), H', ⟨by have := HJ4.out; have := HJ31.out; first | omega | exact Nat.le_refl _⟩, ⟨by (with_reducible repeat (first | refine blk_drewN ?_ _ | refine blk_drew ?_ | refine blk_alloc ?_ _)); exact BK169.out⟩, ⟨by (with_reducible repeat (first | refine blk_drewN ?_ _ | refine blk_drew ?_ | refine blk_alloc ?_ _)); exact BK170.out⟩, ⟨by (with_reducible repeat (first | refine blk_drewN ?_ _ | refine blk_drew ?_ | refine blk_alloc ?_ _)); exact BK171.out⟩, ⟨by (with_reducible repeat (first | refine blk_drewN ?_ _ | refine blk_drew ?_ | refine blk_alloc ?_ _)); exact BK176.out⟩, ⟨by (with_reducible repeat (first | refine blk_drewN ?_ _ | refine blk_drew ?_ | refine blk_alloc ?_ _)); exact BK184.out⟩, ⟨by (with_reducible repeat (first | refine blk_drewN ?_ _ | refine blk_drew ?_ | refine blk_alloc ?_ _)); exact BK187.out⟩, ⟨by (with_reducible repeat (first | refine blk_drewN ?_ _ | refine blk_drew ?_ | refine blk_alloc ?_ _)); exact BK193.out⟩, ⟨by (with_reducible repeat (first | refine blk_drewN ?_ _ | refine blk_drew ?_ | refine blk_alloc ?_ _)); exact BK197.out⟩, ⟨by (with_reducible repeat (first | refine blk_drewN ?_ _ | refine blk_drew ?_ | refine blk_alloc ?_ _)); exact BK198.out⟩, ⟨by repeat (first | (with_reducible first | exact HB.out | apply below_alloc | apply pw_below_drewN | apply below_drew1 | refine below_set ?_ GE169.out | refine below_set ?_ GE170.out | refine below_set ?_ GE171.out | refine below_set ?_ GE176.out | refine below_set ?_ GE184.out | refine below_set ?_ GE187.out | refine below_set ?_ GE193.out | refine below_set ?_ GE197.out | refine below_set ?_ GE198.out) | exact HB.out)⟩⟩
            ·replace c181 := Bool.eq_false_iff.mpr c181
             subst c181
             have H1 : (oakumlaw10_LayoutApart.j2 kj31 a2_0 a2_1 t192 t196 true a1_0 a1_1 t190 t191 t194 t195) = some r := by rw [if_neg (show ¬ (false = true) by decide)] at H; exact H
             clear H
             have H := H1
             clear H1
             have H' := Aside0.mk H
             clear H
             have hnb242 := NB170_169.out
             have hnc242 := NB169_170.out
             have hnb243 := NB170_171.out
             have hnc243 := NB171_170.out
             have hnb244 := NB170_176.out
             have hnc244 := NB176_170.out
             have hnb245 := NB170_184.out
             have hnc245 := NB184_170.out
             have hnb246 := NB170_187.out
             have hnc246 := NB187_170.out
             have hnb247 := NB170_193.out
             have hnc247 := NB193_170.out
             have hnb248 := NB170_197.out
             have hnc248 := NB197_170.out
             have hnb249 := NB170_198.out
             have hnc249 := NB198_170.out
             have hcz250_0 : w148.cell? ⟨gb170, 0, none⟩ = some (.int .i64 a1_0) := (blk_cell BK170.out 0).trans rfl
             have hcz250_1 : w148.cell? ⟨gb170, 1, none⟩ = some (.int .i64 a1_1) := (blk_cell BK170.out 1).trans rfl
             have hfz250_0 := blk_frozen BK170.out 0
             have hfz250_1 := blk_frozen BK170.out 1
             have hnb251 := NB198_169.out
             have hnc251 := NB169_198.out
             have hnb252 := NB198_171.out
             have hnc252 := NB171_198.out
             have hnb253 := NB198_176.out
             have hnc253 := NB176_198.out
             have hnb254 := NB198_184.out
             have hnc254 := NB184_198.out
             have hnb255 := NB198_187.out
             have hnc255 := NB187_198.out
             have hnb256 := NB198_193.out
             have hnc256 := NB193_198.out
             have hnb257 := NB198_197.out
             have hnc257 := NB197_198.out
             have hcz258_0 : w148.cell? ⟨gb198, 0, none⟩ = some (.int .i64 0) := (blk_cell BK198.out 0).trans rfl
             have hcz258_1 : w148.cell? ⟨gb198, 1, none⟩ = some (.int .i64 0) := (blk_cell BK198.out 1).trans rfl
             have hfz258_0 := blk_frozen BK198.out 0
             have hfz258_1 := blk_frozen BK198.out 1
             have hnb259 := NB193_169.out
             have hnc259 := NB169_193.out
             have hnb260 := NB193_171.out
             have hnc260 := NB171_193.out
             have hnb261 := NB193_176.out
             have hnc261 := NB176_193.out
             have hnb262 := NB193_184.out
             have hnc262 := NB184_193.out
             have hnb263 := NB193_187.out
             have hnc263 := NB187_193.out
             have hnb264 := NB193_197.out
             have hnc264 := NB197_193.out
             have hcz265_0 : w148.cell? ⟨gb193, 0, none⟩ = some (.int .i64 t190) := (blk_cell BK193.out 0).trans rfl
             have hcz265_1 : w148.cell? ⟨gb193, 1, none⟩ = some (.int .i64 t191) := (blk_cell BK193.out 1).trans rfl
             have hfz265_0 := blk_frozen BK193.out 0
             have hfz265_1 := blk_frozen BK193.out 1
             go_wp2_with (first | (go_at_call 36; (with_reducible refine (oakumlaw10_apart.calls t188 1 t190 t191 false _ A180.out).mono ?_); rintro e w266 ⟨rfl, hb⟩; have n0_ := Aside0.mk (blk_below (g := gb169) (o := .cells #[.int .i64 a0_0, .int .i64 a0_1, .int .i64 a0_2] 49 (0, 0)) (by (with_reducible repeat (first | refine blk_drewN ?_ _ | refine blk_drew ?_ | refine blk_alloc ?_ _)); refine blk_far ?_ NB169_198.out _; (with_reducible repeat (first | refine blk_drewN ?_ _ | refine blk_drew ?_ | refine blk_alloc ?_ _)); refine blk_far ?_ NB169_198.out _; (with_reducible repeat (first | refine blk_drewN ?_ _ | refine blk_drew ?_ | refine blk_alloc ?_ _)); exact BK169.out) hb); have n1_ := Aside0.mk (blk_below (g := gb170) (o := .cells #[.int .i64 a1_0, .int .i64 a1_1] 25 (0, 0)) (by (with_reducible repeat (first | refine blk_drewN ?_ _ | refine blk_drew ?_ | refine blk_alloc ?_ _)); refine blk_far ?_ NB170_198.out _; (with_reducible repeat (first | refine blk_drewN ?_ _ | refine blk_drew ?_ | refine blk_alloc ?_ _)); refine blk_far ?_ NB170_198.out _; (with_reducible repeat (first | refine blk_drewN ?_ _ | refine blk_drew ?_ | refine blk_alloc ?_ _)); exact BK170.out) hb); have n2_ := Aside0.mk (blk_below (g := gb171) (o := .cells #[.int .i64 a2_0, .int .i64 a2_1] 59 (0, 0)) (by (with_reducible repeat (first | refine blk_drewN ?_ _ | refine blk_drew ?_ | refine blk_alloc ?_ _)); refine blk_far ?_ NB171_198.out _; (with_reducible repeat (first | refine blk_drewN ?_ _ | refine blk_drew ?_ | refine blk_alloc ?_ _)); refine blk_far ?_ NB171_198.out _; (with_reducible repeat (first | refine blk_drewN ?_ _ | refine blk_drew ?_ | refine blk_alloc ?_ _)); exact BK171.out) hb); have n3_ := Aside0.mk (blk_below (g := gb176) (o := .cells #[.int .i64 t172, .int .i64 t173, .int .i64 t174] 51 (0, 0)) (by (with_reducible repeat (first | refine blk_drewN ?_ _ | refine blk_drew ?_ | refine blk_alloc ?_ _)); refine blk_far ?_ NB176_198.out _; (with_reducible repeat (first | refine blk_drewN ?_ _ | refine blk_drew ?_ | refine blk_alloc ?_ _)); refine blk_far ?_ NB176_198.out _; (with_reducible repeat (first | refine blk_drewN ?_ _ | refine blk_drew ?_ | refine blk_alloc ?_ _)); exact BK176.out) hb); have n4_ := Aside0.mk (blk_below (g := gb184) (o := .cells #[.int .i64 t182, .int .i64 t183] 25 (0, 0)) (by (with_reducible repeat (first | refine blk_drewN ?_ _ | refine blk_drew ?_ | refine blk_alloc ?_ _)); refine blk_far ?_ NB184_198.out _; (with_reducible repeat (first | refine blk_drewN ?_ _ | refine blk_drew ?_ | refine blk_alloc ?_ _)); refine blk_far ?_ NB184_198.out _; (with_reducible repeat (first | refine blk_drewN ?_ _ | refine blk_drew ?_ | refine blk_alloc ?_ _)); exact BK184.out) hb); have n5_ := Aside0.mk (blk_below (g := gb187) (o := .cells #[.int .i64 t185, .int .i64 t186] 25 (0, 0)) (by (with_reducible repeat (first | refine blk_drewN ?_ _ | refine blk_drew ?_ | refine blk_alloc ?_ _)); refine blk_far ?_ NB187_198.out _; (with_reducible repeat (first | refine blk_drewN ?_ _ | refine blk_drew ?_ | refine blk_alloc ?_ _)); refine blk_far ?_ NB187_198.out _; (with_reducible repeat (first | refine blk_drewN ?_ _ | refine blk_drew ?_ | refine blk_alloc ?_ _)); exact BK187.out) hb); have n6_ := Aside0.mk (blk_below (g := gb193) (o := .cells #[.int .i64 t190, .int .i64 t191] 25 (0, 0)) (by (with_reducible repeat (first | refine blk_drewN ?_ _ | refine blk_drew ?_ | refine blk_alloc ?_ _)); refine blk_far ?_ NB193_198.out _; (with_reducible repeat (first | refine blk_drewN ?_ _ | refine blk_drew ?_ | refine blk_alloc ?_ _)); refine blk_far ?_ NB193_198.out _; (with_reducible repeat (first | refine blk_drewN ?_ _ | refine blk_drew ?_ | refine blk_alloc ?_ _)); exact BK193.out) hb); have n7_ := Aside0.mk (blk_below (g := gb197) (o := .cells #[.int .i64 t194, .int .i64 t195] 25 (0, 0)) (by (with_reducible repeat (first | refine blk_drewN ?_ _ | refine blk_drew ?_ | refine blk_alloc ?_ _)); refine blk_far ?_ NB197_198.out _; (with_reducible repeat (first | refine blk_drewN ?_ _ | refine blk_drew ?_ | refine blk_alloc ?_ _)); refine blk_far ?_ NB197_198.out _; (with_reducible repeat (first | refine blk_drewN ?_ _ | refine blk_drew ?_ | refine blk_alloc ?_ _)); exact BK197.out) hb); have n8_ := Aside0.mk (blk_below (g := gb198) (o := .cells #[.int .i64 t188, .int .i64 1] 25 (0, 0)) (by (with_reducible repeat (first | refine blk_drewN ?_ _ | refine blk_drew ?_ | refine blk_alloc ?_ _)); refine blk_put (cs := #[.int .i64 t188, .int .i64 0]) ?_ 1 _ rfl; (with_reducible repeat (first | refine blk_drewN ?_ _ | refine blk_drew ?_ | refine blk_alloc ?_ _)); refine blk_put (cs := #[.int .i64 0, .int .i64 0]) ?_ 0 _ rfl; (with_reducible repeat (first | refine blk_drewN ?_ _ | refine blk_drew ?_ | refine blk_alloc ?_ _)); exact BK198.out) hb); have n9_ := Aside0.mk (below_step (by repeat (first | (with_reducible first | exact HB.out | apply below_alloc | apply pw_below_drewN | apply below_drew1 | refine below_set ?_ GE169.out | refine below_set ?_ GE170.out | refine below_set ?_ GE171.out | refine below_set ?_ GE176.out | refine below_set ?_ GE184.out | refine below_set ?_ GE187.out | refine below_set ?_ GE193.out | refine below_set ?_ GE197.out | refine below_set ?_ GE198.out) | exact HB.out)) hb); clear BK169; clear BK170; clear BK171; clear BK176; clear BK184; clear BK187; clear BK193; clear BK197; clear BK198; clear HB; have BK169 := n0_; have BK170 := n1_; have BK171 := n2_; have BK176 := n3_; have BK184 := n4_; have BK187 := n5_; have BK193 := n6_; have BK197 := n7_; have BK198 := n8_; have HB := n9_; clear n0_ n1_ n2_ n3_ n4_ n5_ n6_ n7_ n8_ n9_; (try clear hb); (try clear hb2); (try clear hk); (try clear hi)))
             go_meet
             case rel => exact ⟨_, (true), (by first | rfl | (simp; done) | (simp [*]; done)), H', ⟨by have := HJ4.out; have := HJ31.out; first | omega | exact Nat.le_refl _⟩, ⟨by (with_reducible repeat (first | refine blk_drewN ?_ _ | refine blk_drew ?_ | refine blk_alloc ?_ _)); exact BK169.out⟩, ⟨by (with_reducible repeat (first | refine blk_drewN ?_ _ | refine blk_drew ?_ | refine blk_alloc ?_ _)); exact BK170.out⟩, ⟨by (with_reducible repeat (first | refine blk_drewN ?_ _ | refine blk_drew ?_ | refine blk_alloc ?_ _)); exact BK171.out⟩, ⟨by (with_reducible repeat (first | refine blk_drewN ?_ _ | refine blk_drew ?_ | refine blk_alloc ?_ _)); exact BK176.out⟩, ⟨by (with_reducible repeat (first | refine blk_drewN ?_ _ | refine blk_drew ?_ | refine blk_alloc ?_ _)); exact BK184.out⟩, ⟨by (with_reducible repeat (first | refine blk_drewN ?_ _ | refine blk_drew ?_ | refine blk_alloc ?_ _)); exact BK187.out⟩, ⟨by (with_reducible repeat (first | refine blk_drewN ?_ _ | refine blk_drew ?_ | refine blk_alloc ?_ _)); exact BK193.out⟩, ⟨by (with_reducible repeat (first | refine blk_drewN ?_ _ | refine blk_drew ?_ | refine blk_alloc ?_ _)); exact BK197.out⟩, ⟨by (with_reducible repeat (first | refine blk_drewN ?_ _ | refine blk_drew ?_ | refine blk_alloc ?_ _)); exact BK198.out⟩, ⟨by repeat (first | (with_reducible first | exact HB.out | apply below_alloc | apply pw_below_drewN | apply below_drew1 | refine below_set ?_ GE169.out | refine below_set ?_ GE170.out | refine below_set ?_ GE171.out | refine below_set ?_ GE176.out | refine below_set ?_ GE184.out | refine below_set ?_ GE187.out | refine below_set ?_ GE193.out | refine below_set ?_ GE197.out | refine below_set ?_ GE198.out) | exact HB.out)⟩⟩
           ·rw [if_neg c179] at H
            have c179b0 : (t192 == 0) = false := beq_eq_false_iff_ne.mpr c179
            have c179b1 : (t192 != 0) = true := bne_iff_ne.mpr c179
            by_cases c267 : t196 = 0
            ·rw [if_pos c267] at H
             have c267b0 : (t196 == 0) = true := beq_iff_eq.mpr c267
             have c267b1 : (t196 != 0) = false := bne_eq_false_iff_eq.mpr c267
             clear c267
             replace H := Option.bind_eq_some_iff.mp H
             obtain ⟨t201, A2680, H⟩ := H
             replace H : (oakumlaw10_LayoutApart.j2 kj31 a2_0 a2_1 t192 t196 (!t201) a1_0 a1_1 t190 t191 t194 t195) = some r := H
             have A268 := Aside0.mk A2680
             clear A2680
             have H' := Aside0.mk H
             clear H
             have hnb269 := NB170_169.out
             have hnc269 := NB169_170.out
             have hnb270 := NB170_171.out
             have hnc270 := NB171_170.out
             have hnb271 := NB170_176.out
             have hnc271 := NB176_170.out
             have hnb272 := NB170_184.out
             have hnc272 := NB184_170.out
             have hnb273 := NB170_187.out
             have hnc273 := NB187_170.out
             have hnb274 := NB170_193.out
             have hnc274 := NB193_170.out
             have hnb275 := NB170_197.out
             have hnc275 := NB197_170.out
             have hnb276 := NB170_198.out
             have hnc276 := NB198_170.out
             have hcz277_0 : w148.cell? ⟨gb170, 0, none⟩ = some (.int .i64 a1_0) := (blk_cell BK170.out 0).trans rfl
             have hcz277_1 : w148.cell? ⟨gb170, 1, none⟩ = some (.int .i64 a1_1) := (blk_cell BK170.out 1).trans rfl
             have hfz277_0 := blk_frozen BK170.out 0
             have hfz277_1 := blk_frozen BK170.out 1
             have hnb278 := NB198_169.out
             have hnc278 := NB169_198.out
             have hnb279 := NB198_171.out
             have hnc279 := NB171_198.out
             have hnb280 := NB198_176.out
             have hnc280 := NB176_198.out
             have hnb281 := NB198_184.out
             have hnc281 := NB184_198.out
             have hnb282 := NB198_187.out
             have hnc282 := NB187_198.out
             have hnb283 := NB198_193.out
             have hnc283 := NB193_198.out
             have hnb284 := NB198_197.out
             have hnc284 := NB197_198.out
             have hcz285_0 : w148.cell? ⟨gb198, 0, none⟩ = some (.int .i64 0) := (blk_cell BK198.out 0).trans rfl
             have hcz285_1 : w148.cell? ⟨gb198, 1, none⟩ = some (.int .i64 0) := (blk_cell BK198.out 1).trans rfl
             have hfz285_0 := blk_frozen BK198.out 0
             have hfz285_1 := blk_frozen BK198.out 1
             have hnb286 := NB197_169.out
             have hnc286 := NB169_197.out
             have hnb287 := NB197_171.out
             have hnc287 := NB171_197.out
             have hnb288 := NB197_176.out
             have hnc288 := NB176_197.out
             have hnb289 := NB197_184.out
             have hnc289 := NB184_197.out
             have hnb290 := NB197_187.out
             have hnc290 := NB187_197.out
             have hnb291 := NB197_193.out
             have hnc291 := NB193_197.out
             have hcz292_0 : w148.cell? ⟨gb197, 0, none⟩ = some (.int .i64 t194) := (blk_cell BK197.out 0).trans rfl
             have hcz292_1 : w148.cell? ⟨gb197, 1, none⟩ = some (.int .i64 t195) := (blk_cell BK197.out 1).trans rfl
             have hfz292_0 := blk_frozen BK197.out 0
             have hfz292_1 := blk_frozen BK197.out 1
             go_wp2_with (first | (go_at_call 36; (with_reducible refine (oakumlaw10_apart.calls t188 1 t194 t195 t201 _ A268.out).mono ?_); rintro e w293 ⟨rfl, hb⟩; have n0_ := Aside0.mk (blk_below (g := gb169) (o := .cells #[.int .i64 a0_0, .int .i64 a0_1, .int .i64 a0_2] 49 (0, 0)) (by (with_reducible repeat (first | refine blk_drewN ?_ _ | refine blk_drew ?_ | refine blk_alloc ?_ _)); refine blk_far ?_ NB169_198.out _; (with_reducible repeat (first | refine blk_drewN ?_ _ | refine blk_drew ?_ | refine blk_alloc ?_ _)); refine blk_far ?_ NB169_198.out _; (with_reducible repeat (first | refine blk_drewN ?_ _ | refine blk_drew ?_ | refine blk_alloc ?_ _)); exact BK169.out) hb); have n1_ := Aside0.mk (blk_below (g := gb170) (o := .cells #[.int .i64 a1_0, .int .i64 a1_1] 25 (0, 0)) (by (with_reducible repeat (first | refine blk_drewN ?_ _ | refine blk_drew ?_ | refine blk_alloc ?_ _)); refine blk_far ?_ NB170_198.out _; (with_reducible repeat (first | refine blk_drewN ?_ _ | refine blk_drew ?_ | refine blk_alloc ?_ _)); refine blk_far ?_ NB170_198.out _; (with_reducible repeat (first | refine blk_drewN ?_ _ | refine blk_drew ?_ | refine blk_alloc ?_ _)); exact BK170.out) hb); have n2_ := Aside0.mk (blk_below (g := gb171) (o := .cells #[.int .i64 a2_0, .int .i64 a2_1] 59 (0, 0)) (by (with_reducible repeat (first | refine blk_drewN ?_ _ | refine blk_drew ?_ | refine blk_alloc ?_ _)); refine blk_far ?_ NB171_198.out _; (with_reducible repeat (first | refine blk_drewN ?_ _ | refine blk_drew ?_ | refine blk_alloc ?_ _)); refine blk_far ?_ NB171_198.out _; (with_reducible repeat (first | refine blk_drewN ?_ _ | refine blk_drew ?_ | refine blk_alloc ?_ _)); exact BK171.out) hb); have n3_ := Aside0.mk (blk_below (g := gb176) (o := .cells #[.int .i64 t172, .int .i64 t173, .int .i64 t174] 51 (0, 0)) (by (with_reducible repeat (first | refine blk_drewN ?_ _ | refine blk_drew ?_ | refine blk_alloc ?_ _)); refine blk_far ?_ NB176_198.out _; (with_reducible repeat (first | refine blk_drewN ?_ _ | refine blk_drew ?_ | refine blk_alloc ?_ _)); refine blk_far ?_ NB176_198.out _; (with_reducible repeat (first | refine blk_drewN ?_ _ | refine blk_drew ?_ | refine blk_alloc ?_ _)); exact BK176.out) hb); have n4_ := Aside0.mk (blk_below (g := gb184) (o := .cells #[.int .i64 t182, .int .i64 t183] 25 (0, 0)) (by (with_reducible repeat (first | refine blk_drewN ?_ _ | refine blk_drew ?_ | refine blk_alloc ?_ _)); refine blk_far ?_ NB184_198.out _; (with_reducible repeat (first | refine blk_drewN ?_ _ | refine blk_drew ?_ | refine blk_alloc ?_ _)); refine blk_far ?_ NB184_198.out _; (with_reducible repeat (first | refine blk_drewN ?_ _ | refine blk_drew ?_ | refine blk_alloc ?_ _)); exact BK184.out) hb); have n5_ := Aside0.mk (blk_below (g := gb187) (o := .cells #[.int .i64 t185, .int .i64 t186] 25 (0, 0)) (by (with_reducible repeat (first | refine blk_drewN ?_ _ | refine blk_drew ?_ | refine blk_alloc ?_ _)); refine blk_far ?_ NB187_198.out _; (with_reducible repeat (first | refine blk_drewN ?_ _ | refine blk_drew ?_ | refine blk_alloc ?_ _)); refine blk_far ?_ NB187_198.out _; (with_reducible repeat (first | refine blk_drewN ?_ _ | refine blk_drew ?_ | refine blk_alloc ?_ _)); exact BK187.out) hb); have n6_ := Aside0.mk (blk_below (g := gb193) (o := .cells #[.int .i64 t190, .int .i64 t191] 25 (0, 0)) (by (with_reducible repeat (first | refine blk_drewN ?_ _ | refine blk_drew ?_ | refine blk_alloc ?_ _)); refine blk_far ?_ NB193_198.out _; (with_reducible repeat (first | refine blk_drewN ?_ _ | refine blk_drew ?_ | refine blk_alloc ?_ _)); refine blk_far ?_ NB193_198.out _; (with_reducible repeat (first | refine blk_drewN ?_ _ | refine blk_drew ?_ | refine blk_alloc ?_ _)); exact BK193.out) hb); have n7_ := Aside0.mk (blk_below (g := gb197) (o := .cells #[.int .i64 t194, .int .i64 t195] 25 (0, 0)) (by (with_reducible repeat (first | refine blk_drewN ?_ _ | refine blk_drew ?_ | refine blk_alloc ?_ _)); refine blk_far ?_ NB197_198.out _; (with_reducible repeat (first | refine blk_drewN ?_ _ | refine blk_drew ?_ | refine blk_alloc ?_ _)); refine blk_far ?_ NB197_198.out _; (with_reducible repeat (first | refine blk_drewN ?_ _ | refine blk_drew ?_ | refine blk_alloc ?_ _)); exact BK197.out) hb); have n8_ := Aside0.mk (blk_below (g := gb198) (o := .cells #[.int .i64 t188, .int .i64 1] 25 (0, 0)) (by (with_reducible repeat (first | refine blk_drewN ?_ _ | refine blk_drew ?_ | refine blk_alloc ?_ _)); refine blk_put (cs := #[.int .i64 t188, .int .i64 0]) ?_ 1 _ rfl; (with_reducible repeat (first | refine blk_drewN ?_ _ | refine blk_drew ?_ | refine blk_alloc ?_ _)); refine blk_put (cs := #[.int .i64 0, .int .i64 0]) ?_ 0 _ rfl; (with_reducible repeat (first | refine blk_drewN ?_ _ | refine blk_drew ?_ | refine blk_alloc ?_ _)); exact BK198.out) hb); have n9_ := Aside0.mk (below_step (by repeat (first | (with_reducible first | exact HB.out | apply below_alloc | apply pw_below_drewN | apply below_drew1 | refine below_set ?_ GE169.out | refine below_set ?_ GE170.out | refine below_set ?_ GE171.out | refine below_set ?_ GE176.out | refine below_set ?_ GE184.out | refine below_set ?_ GE187.out | refine below_set ?_ GE193.out | refine below_set ?_ GE197.out | refine below_set ?_ GE198.out) | exact HB.out)) hb); clear BK169; clear BK170; clear BK171; clear BK176; clear BK184; clear BK187; clear BK193; clear BK197; clear BK198; clear HB; have BK169 := n0_; have BK170 := n1_; have BK171 := n2_; have BK176 := n3_; have BK184 := n4_; have BK187 := n5_; have BK193 := n6_; have BK197 := n7_; have BK198 := n8_; have HB := n9_; clear n0_ n1_ n2_ n3_ n4_ n5_ n6_ n7_ n8_ n9_; (try clear hb); (try clear hb2); (try clear hk); (try clear hi)))
             go_meet
             case rel => exact ⟨_, (!t201), (by first | rfl | (simp; done) | (simp [*]; done)), H', ⟨by have := HJ4.out; have := HJ31.out; first | omega | exact Nat.le_refl _⟩, ⟨by (with_reducible repeat (first | refine blk_drewN ?_ _ | refine blk_drew ?_ | refine blk_alloc ?_ _)); exact BK169.out⟩, ⟨by (with_reducible repeat (first | refine blk_drewN ?_ _ | refine blk_drew ?_ | refine blk_alloc ?_ _)); exact BK170.out⟩, ⟨by (with_reducible repeat (first | refine blk_drewN ?_ _ | refine blk_drew ?_ | refine blk_alloc ?_ _)); exact BK171.out⟩, ⟨by (with_reducible repeat (first | refine blk_drewN ?_ _ | refine blk_drew ?_ | refine blk_alloc ?_ _)); exact BK176.out⟩, ⟨by (with_reducible repeat (first | refine blk_drewN ?_ _ | refine blk_drew ?_ | refine blk_alloc ?_ _)); exact BK184.out⟩, ⟨by (with_reducible repeat (first | refine blk_drewN ?_ _ | refine blk_drew ?_ | refine blk_alloc ?_ _)); exact BK187.out⟩, ⟨by (with_reducible repeat (first | refine blk_drewN ?_ _ | refine blk_drew ?_ | refine blk_alloc ?_ _)); exact BK193.out⟩, ⟨by (with_reducible repeat (first | refine blk_drewN ?_ _ | refine blk_drew ?_ | refine blk_alloc ?_ _)); exact BK197.out⟩, ⟨by (with_reducible repeat (first | refine blk_drewN ?_ _ | refine blk_drew ?_ | refine blk_alloc ?_ _)); exact BK198.out⟩, ⟨by repeat (first | (with_reducible first | exact HB.out | apply below_alloc | apply pw_below_drewN | apply below_drew1 | refine below_set ?_ GE169.out | refine below_set ?_ GE170.out | refine below_set ?_ GE171.out | refine below_set ?_ GE176.out | refine below_set ?_ GE184.out | refine below_set ?_ GE187.out | refine below_set ?_ GE193.out | refine below_set ?_ GE197.out | refine below_set ?_ GE198.out) | exact HB.out)⟩⟩
            ·rw [if_neg c267] at H
             have c267b0 : (t196 == 0) = false := beq_eq_false_iff_ne.mpr c267
             have c267b1 : (t196 != 0) = true := bne_iff_ne.mpr c267
             have H' := Aside0.mk H
             clear H
             have hnb294 := NB170_169.out
             have hnc294 := NB169_170.out
             have hnb295 := NB170_171.out
             have hnc295 := NB171_170.out
             have hnb296 := NB170_176.out
             have hnc296 := NB176_170.out
             have hnb297 := NB170_184.out
             have hnc297 := NB184_170.out
             have hnb298 := NB170_187.out
             have hnc298 := NB187_170.out
             have hnb299 := NB170_193.out
             have hnc299 := NB193_170.out
             have hnb300 := NB170_197.out
             have hnc300 := NB197_170.out
             have hnb301 := NB170_198.out
             have hnc301 := NB198_170.out
             have hcz302_0 : w148.cell? ⟨gb170, 0, none⟩ = some (.int .i64 a1_0) := (blk_cell BK170.out 0).trans rfl
             have hcz302_1 : w148.cell? ⟨gb170, 1, none⟩ = some (.int .i64 a1_1) := (blk_cell BK170.out 1).trans rfl
             have hfz302_0 := blk_frozen BK170.out 0
             have hfz302_1 := blk_frozen BK170.out 1
             go_wp2
             go_meet
             case rel => exact ⟨_, (false), (by first | rfl | (simp; done) | (simp [*]; done)), H', ⟨by have := HJ4.out; have := HJ31.out; first | omega | exact Nat.le_refl _⟩, ⟨by (with_reducible repeat (first | refine blk_drewN ?_ _ | refine blk_drew ?_ | refine blk_alloc ?_ _)); refine blk_far ?_ NB169_198.out _; (with_reducible repeat (first | refine blk_drewN ?_ _ | refine blk_drew ?_ | refine blk_alloc ?_ _)); refine blk_far ?_ NB169_198.out _; (with_reducible repeat (first | refine blk_drewN ?_ _ | refine blk_drew ?_ | refine blk_alloc ?_ _)); exact BK169.out⟩, ⟨by (with_reducible repeat (first | refine blk_drewN ?_ _ | refine blk_drew ?_ | refine blk_alloc ?_ _)); refine blk_far ?_ NB170_198.out _; (with_reducible repeat (first | refine blk_drewN ?_ _ | refine blk_drew ?_ | refine blk_alloc ?_ _)); refine blk_far ?_ NB170_198.out _; (with_reducible repeat (first | refine blk_drewN ?_ _ | refine blk_drew ?_ | refine blk_alloc ?_ _)); exact BK170.out⟩, ⟨by (with_reducible repeat (first | refine blk_drewN ?_ _ | refine blk_drew ?_ | refine blk_alloc ?_ _)); refine blk_far ?_ NB171_198.out _; (with_reducible repeat (first | refine blk_drewN ?_ _ | refine blk_drew ?_ | refine blk_alloc ?_ _)); refine blk_far ?_ NB171_198.out _; (with_reducible repeat (first | refine blk_drewN ?_ _ | refine blk_drew ?_ | refine blk_alloc ?_ _)); exact BK171.out⟩, ⟨by (with_reducible repeat (first | refine blk_drewN ?_ _ | refine blk_drew ?_ | refine blk_alloc ?_ _)); refine blk_far ?_ NB176_198.out _; (with_reducible repeat (first | refine blk_drewN ?_ _ | refine blk_drew ?_ | refine blk_alloc ?_ _)); refine blk_far ?_ NB176_198.out _; (with_reducible repeat (first | refine blk_drewN ?_ _ | refine blk_drew ?_ | refine blk_alloc ?_ _)); exact BK176.out⟩, ⟨by (with_reducible repeat (first | refine blk_drewN ?_ _ | refine blk_drew ?_ | refine blk_alloc ?_ _)); refine blk_far ?_ NB184_198.out _; (with_reducible repeat (first | refine blk_drewN ?_ _ | refine blk_drew ?_ | refine blk_alloc ?_ _)); refine blk_far ?_ NB184_198.out _; (with_reducible repeat (first | refine blk_drewN ?_ _ | refine blk_drew ?_ | refine blk_alloc ?_ _)); exact BK184.out⟩, ⟨by (with_reducible repeat (first | refine blk_drewN ?_ _ | refine blk_drew ?_ | refine blk_alloc ?_ _)); refine blk_far ?_ NB187_198.out _; (with_reducible repeat (first | refine blk_drewN ?_ _ | refine blk_drew ?_ | refine blk_alloc ?_ _)); refine blk_far ?_ NB187_198.out _; (with_reducible repeat (first | refine blk_drewN ?_ _ | refine blk_drew ?_ | refine blk_alloc ?_ _)); exact BK187.out⟩, ⟨by (with_reducible repeat (first | refine blk_drewN ?_ _ | refine blk_drew ?_ | refine blk_alloc ?_ _)); refine blk_far ?_ NB193_198.out _; (with_reducible repeat (first | refine blk_drewN ?_ _ | refine blk_drew ?_ | refine blk_alloc ?_ _)); refine blk_far ?_ NB193_198.out _; (with_reducible repeat (first | refine blk_drewN ?_ _ | refine blk_drew ?_ | refine blk_alloc ?_ _)); exact BK193.out⟩, ⟨by (with_reducible repeat (first | refine blk_drewN ?_ _ | refine blk_drew ?_ | refine blk_alloc ?_ _)); refine blk_far ?_ NB197_198.out _; (with_reducible repeat (first | refine blk_drewN ?_ _ | refine blk_drew ?_ | refine blk_alloc ?_ _)); refine blk_far ?_ NB197_198.out _; (with_reducible repeat (first | refine blk_drewN ?_ _ | refine blk_drew ?_ | refine blk_alloc ?_ _)); exact BK197.out⟩, ⟨by (with_reducible repeat (first | refine blk_drewN ?_ _ | refine blk_drew ?_ | refine blk_alloc ?_ _)); refine blk_put (cs := #[.int .i64 t188, .int .i64 0]) ?_ 1 _ rfl; (with_reducible repeat (first | refine blk_drewN ?_ _ | refine blk_drew ?_ | refine blk_alloc ?_ _)); refine blk_put (cs := #[.int .i64 0, .int .i64 0]) ?_ 0 _ rfl; (with_reducible repeat (first | refine blk_drewN ?_ _ | refine blk_drew ?_ | refine blk_alloc ?_ _)); exact BK198.out⟩, ⟨by repeat (first | (with_reducible first | exact HB.out | apply below_alloc | apply pw_below_drewN | apply below_drew1 | refine below_set ?_ GE169.out | refine below_set ?_ GE170.out | refine below_set ?_ GE171.out | refine below_set ?_ GE176.out | refine below_set ?_ GE184.out | refine below_set ?_ GE187.out | refine below_set ?_ GE193.out | refine below_set ?_ GE197.out | refine below_set ?_ GE198.out) | exact HB.out)⟩⟩
        ·rw [if_neg c158] at H
         have c158b0 : (t189 == 0) = false := beq_eq_false_iff_ne.mpr c158
         have c158b1 : (t189 != 0) = true := bne_iff_ne.mpr c158
         (first | rw [c158b0] | (simp only [i64_w, i32_w]; rw [c158b0]) | skip)
         have H' := Aside0.mk H
         clear H
         go_wp2
         go_meet
         case rel => exact ⟨_, (false), (by first | rfl | (simp; done) | (simp [*]; done)), H', ⟨by have := HJ4.out; have := HJ31.out; first | omega | exact Nat.le_refl _⟩, ⟨by (with_reducible repeat (first | refine blk_drewN ?_ _ | refine blk_drew ?_ | refine blk_alloc ?_ _)); refine blk_far ?_ NB169_198.out _; (with_reducible repeat (first | refine blk_drewN ?_ _ | refine blk_drew ?_ | refine blk_alloc ?_ _)); refine blk_far ?_ NB169_198.out _; (with_reducible repeat (first | refine blk_drewN ?_ _ | refine blk_drew ?_ | refine blk_alloc ?_ _)); exact BK169.out⟩, ⟨by (with_reducible repeat (first | refine blk_drewN ?_ _ | refine blk_drew ?_ | refine blk_alloc ?_ _)); refine blk_far ?_ NB170_198.out _; (with_reducible repeat (first | refine blk_drewN ?_ _ | refine blk_drew ?_ | refine blk_alloc ?_ _)); refine blk_far ?_ NB170_198.out _; (with_reducible repeat (first | refine blk_drewN ?_ _ | refine blk_drew ?_ | refine blk_alloc ?_ _)); exact BK170.out⟩, ⟨by (with_reducible repeat (first | refine blk_drewN ?_ _ | refine blk_drew ?_ | refine blk_alloc ?_ _)); refine blk_far ?_ NB171_198.out _; (with_reducible repeat (first | refine blk_drewN ?_ _ | refine blk_drew ?_ | refine blk_alloc ?_ _)); refine blk_far ?_ NB171_198.out _; (with_reducible repeat (first | refine blk_drewN ?_ _ | refine blk_drew ?_ | refine blk_alloc ?_ _)); exact BK171.out⟩, ⟨by (with_reducible repeat (first | refine blk_drewN ?_ _ | refine blk_drew ?_ | refine blk_alloc ?_ _)); refine blk_far ?_ NB176_198.out _; (with_reducible repeat (first | refine blk_drewN ?_ _ | refine blk_drew ?_ | refine blk_alloc ?_ _)); refine blk_far ?_ NB176_198.out _; (with_reducible repeat (first | refine blk_drewN ?_ _ | refine blk_drew ?_ | refine blk_alloc ?_ _)); exact BK176.out⟩, ⟨by (with_reducible repeat (first | refine blk_drewN ?_ _ | refine blk_drew ?_ | refine blk_alloc ?_ _)); refine blk_far ?_ NB184_198.out _; (with_reducible repeat (first | refine blk_drewN ?_ _ | refine blk_drew ?_ | refine blk_alloc ?_ _)); refine blk_far ?_ NB184_198.out _; (with_reducible repeat (first | refine blk_drewN ?_ _ | refine blk_drew ?_ | refine blk_alloc ?_ _)); exact BK184.out⟩, ⟨by (with_reducible repeat (first | refine blk_drewN ?_ _ | refine blk_drew ?_ | refine blk_alloc ?_ _)); refine blk_far ?_ NB187_198.out _; (with_reducible repeat (first | refine blk_drewN ?_ _ | refine blk_drew ?_ | refine blk_alloc ?_ _)); refine blk_far ?_ NB187_198.out _; (with_reducible repeat (first | refine blk_drewN ?_ _ | refine blk_drew ?_ | refine blk_alloc ?_ _)); exact BK187.out⟩, ⟨by (with_reducible repeat (first | refine blk_drewN ?_ _ | refine blk_drew ?_ | refine blk_alloc ?_ _)); refine blk_far ?_ NB193_198.out _; (with_reducible repeat (first | refine blk_drewN ?_ _ | refine blk_drew ?_ | refine blk_alloc ?_ _)); refine blk_far ?_ NB193_198.out _; (with_reducible repeat (first | refine blk_drewN ?_ _ | refine blk_drew ?_ | refine blk_alloc ?_ _)); exact BK193.out⟩, ⟨by (with_reducible repeat (first | refine blk_drewN ?_ _ | refine blk_drew ?_ | refine blk_alloc ?_ _)); refine blk_far ?_ NB197_198.out _; (with_reducible repeat (first | refine blk_drewN ?_ _ | refine blk_drew ?_ | refine blk_alloc ?_ _)); refine blk_far ?_ NB197_198.out _; (with_reducible repeat (first | refine blk_drewN ?_ _ | refine blk_drew ?_ | refine blk_alloc ?_ _)); exact BK197.out⟩, ⟨by (with_reducible repeat (first | refine blk_drewN ?_ _ | refine blk_drew ?_ | refine blk_alloc ?_ _)); refine blk_put (cs := #[.int .i64 t188, .int .i64 0]) ?_ 1 _ rfl; (with_reducible repeat (first | refine blk_drewN ?_ _ | refine blk_drew ?_ | refine blk_alloc ?_ _)); refine blk_put (cs := #[.int .i64 0, .int .i64 0]) ?_ 0 _ rfl; (with_reducible repeat (first | refine blk_drewN ?_ _ | refine blk_drew ?_ | refine blk_alloc ?_ _)); exact BK198.out⟩, ⟨by repeat (first | (with_reducible first | exact HB.out | apply below_alloc | apply pw_below_drewN | apply below_drew1 | refine below_set ?_ GE169.out | refine below_set ?_ GE170.out | refine below_set ?_ GE171.out | refine below_set ?_ GE176.out | refine below_set ?_ GE184.out | refine below_set ?_ GE187.out | refine below_set ?_ GE193.out | refine below_set ?_ GE197.out | refine below_set ?_ GE198.out) | exact HB.out)⟩⟩
       case rest => as_aux_lemma =>
        clear HC112
        try clear c1
        try clear c2
        try clear p2
        try clear c3
        try clear c5
        try clear c6
        try clear p6
        try clear c7
        try clear c8
        try clear c9
        try clear c10
        try clear c11
        try clear c12
        try clear c13
        try clear c14
        try clear c15
        try clear c16
        try clear c17
        try clear c18
        try clear c19
        try clear c20
        try clear c21
        try clear c22
        try clear c23
        try clear c24
        try clear c25
        try clear c26
        try clear c27
        try clear c28
        try clear c29
        try clear c30
        try clear c34
        try clear c35
        try clear c59
        try clear c59b1
        try clear c60
        try clear c60b0
        try clear c60b1
        try clear c61
        try clear c62
        try clear c63
        try clear c64
        try clear p64
        try clear c65
        try clear c67
        try clear c68
        try clear c69
        try clear c70
        try clear c72
        try clear c73
        try clear c74
        try clear c76
        try clear c77
        try clear c78
        try clear c79
        try clear c80
        try clear c82
        try clear c83
        try clear c84
        try clear c85
        try clear c87
        try clear c88
        try clear c89
        try clear c91
        try clear c92
        try clear c93
        try clear c94
        try clear c95
        try clear c97
        try clear c98
        try clear c99
        try clear c100
        try clear c102
        try clear c103
        try clear c104
        try clear c105
        try clear c106
        try clear c108
        try clear c113
        try clear c114
        try clear c115
        try clear c116
        try clear c117
        try clear c119
        try clear c120
        try clear c121
        try clear c122
        try clear c129
        try clear c130
        try clear c131
        try clear c132
        try clear c133
        try clear c134
        try clear c140
        try clear c141
        try clear c142
        try clear c143
        try clear c144
        try clear c145
        try clear c146
        try clear c149
        try clear c150
        try clear c151
        try clear c152
        try clear c153
        try clear c154
        try clear c155
        try clear c156
        try clear c158
        try clear c158b0
        try clear c158b1
        try clear c159
        try clear c159b0
        try clear c160
        try clear c161
        try clear c162
        try clear c163
        try clear c164
        try clear c165
        try clear c166
        try clear c167
        try clear c169
        try clear c169b0
        try clear c170
        try clear c171
        try clear c172
        try clear c173
        try clear c174
        try clear c175
        try clear c176
        try clear c177
        try clear c179
        try clear c179b0
        try clear c179b1
        try clear c181
        try clear c182
        try clear c182b0
        try clear c182b1
        try clear c184
        try clear c185
        try clear c186
        try clear c187
        try clear c188
        try clear c189
        try clear c190
        try clear c191
        try clear c193
        try clear c194
        try clear c195
        try clear c196
        try clear c197
        try clear c198
        try clear c199
        try clear c201
        try clear c202
        try clear c203
        try clear c204
        try clear c205
        try clear c206
        try clear c210
        try clear c211
        try clear c212
        try clear c213
        try clear c214
        try clear c217
        try clear c218
        try clear c219
        try clear c220
        try clear c221
        try clear c222
        try clear c223
        try clear c224
        try clear c226
        try clear c227
        try clear c228
        try clear c229
        try clear c230
        try clear c231
        try clear c232
        try clear c234
        try clear c235
        try clear c236
        try clear c237
        try clear c238
        try clear c239
        try clear c242
        try clear c243
        try clear c244
        try clear c245
        try clear c246
        try clear c247
        try clear c248
        try clear c249
        try clear c251
        try clear c252
        try clear c253
        try clear c254
        try clear c255
        try clear c256
        try clear c257
        try clear c259
        try clear c260
        try clear c261
        try clear c262
        try clear c263
        try clear c264
        try clear c267
        try clear c267b0
        try clear c267b1
        try clear c269
        try clear c270
        try clear c271
        try clear c272
        try clear c273
        try clear c274
        try clear c275
        try clear c276
        try clear c278
        try clear c279
        try clear c280
        try clear c281
        try clear c282
        try clear c283
        try clear c284
        try clear c286
        try clear c287
        try clear c288
        try clear c289
        try clear c290
        try clear c291
        try clear c294
        try clear c295
        try clear c296
        try clear c297
        try clear c298
        try clear c299
        try clear c300
        try clear c301
        try clear hcz101_0
        try clear hcz101_1
        try clear hcz107_0
        try clear hcz107_1
        try clear hcz118_0
        try clear hcz118_1
        try clear hcz118_2
        try clear hcz11_0
        try clear hcz11_1
        try clear hcz123_0
        try clear hcz123_1
        try clear hcz125_0
        try clear hcz125_1
        try clear hcz125_2
        try clear hcz126_0
        try clear hcz126_1
        try clear hcz135_0
        try clear hcz135_1
        try clear hcz136_0
        try clear hcz136_1
        try clear hcz136_2
        try clear hcz137_0
        try clear hcz137_1
        try clear hcz13_0
        try clear hcz13_1
        try clear hcz13_2
        try clear hcz147_0
        try clear hcz147_1
        try clear hcz157_0
        try clear hcz157_1
        try clear hcz168_0
        try clear hcz168_1
        try clear hcz178_0
        try clear hcz178_1
        try clear hcz192_0
        try clear hcz192_1
        try clear hcz19_0
        try clear hcz19_1
        try clear hcz19_2
        try clear hcz200_0
        try clear hcz200_1
        try clear hcz207_0
        try clear hcz207_1
        try clear hcz209_0
        try clear hcz209_1
        try clear hcz215_0
        try clear hcz215_1
        try clear hcz225_0
        try clear hcz225_1
        try clear hcz233_0
        try clear hcz233_1
        try clear hcz240_0
        try clear hcz240_1
        try clear hcz24_0
        try clear hcz24_1
        try clear hcz250_0
        try clear hcz250_1
        try clear hcz258_0
        try clear hcz258_1
        try clear hcz265_0
        try clear hcz265_1
        try clear hcz277_0
        try clear hcz277_1
        try clear hcz285_0
        try clear hcz285_1
        try clear hcz292_0
        try clear hcz292_1
        try clear hcz302_0
        try clear hcz302_1
        try clear hcz36_0
        try clear hcz36_1
        try clear hcz36_2
        try clear hcz38_0
        try clear hcz38_1
        try clear hcz38_2
        try clear hcz40_0
        try clear hcz40_1
        try clear hcz40_2
        try clear hcz47_0
        try clear hcz47_1
        try clear hcz48_0
        try clear hcz48_1
        try clear hcz48_2
        try clear hcz56_0
        try clear hcz56_1
        try clear hcz66_0
        try clear hcz66_1
        try clear hcz71_0
        try clear hcz71_1
        try clear hcz75_0
        try clear hcz75_1
        try clear hcz75_2
        try clear hcz81_0
        try clear hcz81_1
        try clear hcz86_0
        try clear hcz86_1
        try clear hcz90_0
        try clear hcz90_1
        try clear hcz90_2
        try clear hcz96_0
        try clear hcz96_1
        try clear hfz101_0
        try clear hfz101_1
        try clear hfz107_0
        try clear hfz107_1
        try clear hfz118_0
        try clear hfz118_1
        try clear hfz118_2
        try clear hfz11_0
        try clear hfz11_1
        try clear hfz123_0
        try clear hfz123_1
        try clear hfz125_0
        try clear hfz125_1
        try clear hfz125_2
        try clear hfz126_0
        try clear hfz126_1
        try clear hfz135_0
        try clear hfz135_1
        try clear hfz136_0
        try clear hfz136_1
        try clear hfz136_2
        try clear hfz137_0
        try clear hfz137_1
        try clear hfz13_0
        try clear hfz13_1
        try clear hfz13_2
        try clear hfz147_0
        try clear hfz147_1
        try clear hfz157_0
        try clear hfz157_1
        try clear hfz168_0
        try clear hfz168_1
        try clear hfz178_0
        try clear hfz178_1
        try clear hfz192_0
        try clear hfz192_1
        try clear hfz19_0
        try clear hfz19_1
        try clear hfz19_2
        try clear hfz200_0
        try clear hfz200_1
        try clear hfz207_0
        try clear hfz207_1
        try clear hfz209_0
        try clear hfz209_1
        try clear hfz215_0
        try clear hfz215_1
        try clear hfz225_0
        try clear hfz225_1
        try clear hfz233_0
        try clear hfz233_1
        try clear hfz240_0
        try clear hfz240_1
        try clear hfz24_0
        try clear hfz24_1
        try clear hfz250_0
        try clear hfz250_1
        try clear hfz258_0
        try clear hfz258_1
        try clear hfz265_0
        try clear hfz265_1
        try clear hfz277_0
        try clear hfz277_1
        try clear hfz285_0
        try clear hfz285_1
        try clear hfz292_0
        try clear hfz292_1
        try clear hfz302_0
        try clear hfz302_1
        try clear hfz36_0
        try clear hfz36_1
        try clear hfz36_2
        try clear hfz38_0
        try clear hfz38_1
        try clear hfz38_2
        try clear hfz40_0
        try clear hfz40_1
        try clear hfz40_2
        try clear hfz47_0
        try clear hfz47_1
        try clear hfz48_0
        try clear hfz48_1
        try clear hfz48_2
        try clear hfz56_0
        try clear hfz56_1
        try clear hfz66_0
        try clear hfz66_1
        try clear hfz71_0
        try clear hfz71_1
        try clear hfz75_0
        try clear hfz75_1
        try clear hfz75_2
        try clear hfz81_0
        try clear hfz81_1
        try clear hfz86_0
        try clear hfz86_1
        try clear hfz90_0
        try clear hfz90_1
        try clear hfz90_2
        try clear hfz96_0
        try clear hfz96_1
        try clear p2
        try clear p64
        obtain ⟨kq, x148_111, rfl, HA, HJ111, BK169, BK170, BK171, BK176, BK184, BK187, BK193, BK197, BK198, HB⟩ := hcut
        cases kq with
        | zero => exact absurd HA.out (by simp [oakumlaw10_LayoutApart.j2])
        | succ kj111 =>
         have H := HA.out
         clear HA
         simp only [oakumlaw10_LayoutApart.j2] at H
         by_cases c303 : x148_111 = true
         ·subst c303
          have H1 : (some false) = some r := by rw [if_pos rfl] at H; exact H
          clear H
          have H := H1
          clear H1
          exact absurd ((Option.some.inj H).trans hrt.out) (by decide)
         ·replace c303 := Bool.eq_false_iff.mpr c303
          subst c303
          have H1 : (if t192 = 0 then (if t190 ≤ a1_0 then (oakumlaw10_LayoutApart.j3 kj111 a2_0 a2_1 t192 t196 true t190 t191 t194 t195) else (oakumlaw10_LayoutApart.j3 kj111 a2_0 a2_1 t192 t196 (decide ((wrap64 (t190 + t191)) > (wrap64 (a1_0 + a1_1)))) t190 t191 t194 t195)) else (oakumlaw10_LayoutApart.j3 kj111 a2_0 a2_1 t192 t196 false t190 t191 t194 t195)) = some r := by rw [if_neg (show ¬ (false = true) by decide)] at H; exact H
          clear H
          have H := H1
          clear H1
          have HC304 := Aside0.mk H
          clear H
          go_upto_region 18 with (fail)
          go_cut [170] (fun v170 wc => ∃ (kq : Nat) (x170_303 : Bool), v170 = .bool x170_303 ∧ Aside0 (oakumlaw10_LayoutApart.j3 kq a2_0 a2_1 t192 t196 x170_303 t190 t191 t194 t195 = some r) ∧ Aside0 (kq ≤ kj111) ∧ Aside0 (wc.heap[gb169]? = some (.cells #[.int .i64 a0_0, .int .i64 a0_1, .int .i64 a0_2] 49 (0, 0))) ∧ Aside0 (wc.heap[gb170]? = some (.cells #[.int .i64 a1_0, .int .i64 a1_1] 25 (0, 0))) ∧ Aside0 (wc.heap[gb171]? = some (.cells #[.int .i64 a2_0, .int .i64 a2_1] 59 (0, 0))) ∧ Aside0 (wc.heap[gb176]? = some (.cells #[.int .i64 t172, .int .i64 t173, .int .i64 t174] 51 (0, 0))) ∧ Aside0 (wc.heap[gb184]? = some (.cells #[.int .i64 t182, .int .i64 t183] 25 (0, 0))) ∧ Aside0 (wc.heap[gb187]? = some (.cells #[.int .i64 t185, .int .i64 t186] 25 (0, 0))) ∧ Aside0 (wc.heap[gb193]? = some (.cells #[.int .i64 t190, .int .i64 t191] 25 (0, 0))) ∧ Aside0 (wc.heap[gb197]? = some (.cells #[.int .i64 t194, .int .i64 t195] 25 (0, 0))) ∧ Aside0 (wc.heap[gb198]? = some (.cells #[.int .i64 t188, .int .i64 1] 25 (0, 0))) ∧ Aside0 (Below w.heap.size w wc))
          case first => as_aux_lemma =>
           have H := HC304.out
           clear HC304
           by_cases c305 : t192 = 0
           ·rw [if_pos c305] at H
            have c305b0 : (t192 == 0) = true := beq_iff_eq.mpr c305
            have c305b1 : (t192 != 0) = false := bne_eq_false_iff_eq.mpr c305
            clear c305
            (first | rw [c305b0] | (simp only [i64_w, i32_w]; rw [c305b0]) | skip)
            by_cases c306 : t190 ≤ a1_0
            ·rw [if_pos c306] at H
             have c306b0 : decide (t190 ≤ a1_0) = true := decide_eq_true c306
             clear c306
             have H' := Aside0.mk H
             clear H
             have hnb307 := NB193_169.out
             have hnc307 := NB169_193.out
             have hnb308 := NB193_170.out
             have hnc308 := NB170_193.out
             have hnb309 := NB193_171.out
             have hnc309 := NB171_193.out
             have hnb310 := NB193_176.out
             have hnc310 := NB176_193.out
             have hnb311 := NB193_184.out
             have hnc311 := NB184_193.out
             have hnb312 := NB193_187.out
             have hnc312 := NB187_193.out
             have hnb313 := NB193_197.out
             have hnc313 := NB197_193.out
             have hnb314 := NB193_198.out
             have hnc314 := NB198_193.out
             have hcz315_0 : wc.cell? ⟨gb193, 0, none⟩ = some (.int .i64 t190) := (blk_cell BK193.out 0).trans rfl
             have hcz315_1 : wc.cell? ⟨gb193, 1, none⟩ = some (.int .i64 t191) := (blk_cell BK193.out 1).trans rfl
             have hfz315_0 := blk_frozen BK193.out 0
             have hfz315_1 := blk_frozen BK193.out 1
             have hnb316 := NB170_169.out
             have hnc316 := NB169_170.out
             have hnb317 := NB170_171.out
             have hnc317 := NB171_170.out
             have hnb318 := NB170_176.out
             have hnc318 := NB176_170.out
             have hnb319 := NB170_184.out
             have hnc319 := NB184_170.out
             have hnb320 := NB170_187.out
             have hnc320 := NB187_170.out
             have hnb321 := NB170_197.out
             have hnc321 := NB197_170.out
             have hnb322 := NB170_198.out
             have hnc322 := NB198_170.out
             have hcz323_0 : wc.cell? ⟨gb170, 0, none⟩ = some (.int .i64 a1_0) := (blk_cell BK170.out 0).trans rfl
             have hcz323_1 : wc.cell? ⟨gb170, 1, none⟩ = some (.int .i64 a1_1) := (blk_cell BK170.out 1).trans rfl
             have hfz323_0 := blk_frozen BK170.out 0
             have hfz323_1 := blk_frozen BK170.out 1
             go_wp2
             go_meet
             case rel => exact ⟨_, (true), (by first | rfl | (simp; done) | (simp [*]; done)), H', ⟨by have := HJ4.out; have := HJ31.out; have := HJ111.out; first | omega | exact Nat.le_refl _⟩, ⟨by (with_reducible repeat (first | refine blk_drewN ?_ _ | refine blk_drew ?_ | refine blk_alloc ?_ _)); exact BK169.out⟩, ⟨by (with_reducible repeat (first | refine blk_drewN ?_ _ | refine blk_drew ?_ | refine blk_alloc ?_ _)); exact BK170.out⟩, ⟨by (with_reducible repeat (first | refine blk_drewN ?_ _ | refine blk_drew ?_ | refine blk_alloc ?_ _)); exact BK171.out⟩, ⟨by (with_reducible repeat (first | refine blk_drewN ?_ _ | refine blk_drew ?_ | refine blk_alloc ?_ _)); exact BK176.out⟩, ⟨by (with_reducible repeat (first | refine blk_drewN ?_ _ | refine blk_drew ?_ | refine blk_alloc ?_ _)); exact BK184.out⟩, ⟨by (with_reducible repeat (first | refine blk_drewN ?_ _ | refine blk_drew ?_ | refine blk_alloc ?_ _)); exact BK187.out⟩, ⟨by (with_reducible repeat (first | refine blk_drewN ?_ _ | refine blk_drew ?_ | refine blk_alloc ?_ _)); exact BK193.out⟩, ⟨by (with_reducible repeat (first | refine blk_drewN ?_ _ | refine blk_drew ?_ | refine blk_alloc ?_ _)); exact BK197.out⟩, ⟨by (with_reducible repeat (first | refine blk_drewN ?_ _ | refine blk_drew ?_ | refine blk_alloc ?_ _)); exact BK198.out⟩, ⟨by repeat (first | (with_reducible first | exact HB.out | apply below_alloc | apply pw_below_drewN | apply below_drew1 | refine below_set ?_ GE169.out | refine below_set ?_ GE170.out | refine below_set ?_ GE171.out | refine below_set ?_ GE176.out | refine below_set ?_ GE184.out | refine below_set ?_ GE187.out | refine below_set ?_ GE193.out | refine below_set ?_ GE197.out | refine below_set ?_ GE198.out) | exact HB.out)⟩⟩
            ·rw [if_neg c306] at H
             have c306b0 : decide (t190 ≤ a1_0) = false := decide_eq_false c306
             clear c306
             have H' := Aside0.mk H
             clear H
             have hnb324 := NB193_169.out
             have hnc324 := NB169_193.out
             have hnb325 := NB193_170.out
             have hnc325 := NB170_193.out
             have hnb326 := NB193_171.out
             have hnc326 := NB171_193.out
             have hnb327 := NB193_176.out
             have hnc327 := NB176_193.out
             have hnb328 := NB193_184.out
             have hnc328 := NB184_193.out
             have hnb329 := NB193_187.out
             have hnc329 := NB187_193.out
             have hnb330 := NB193_197.out
             have hnc330 := NB197_193.out
             have hnb331 := NB193_198.out
             have hnc331 := NB198_193.out
             have hcz332_0 : wc.cell? ⟨gb193, 0, none⟩ = some (.int .i64 t190) := (blk_cell BK193.out 0).trans rfl
             have hcz332_1 : wc.cell? ⟨gb193, 1, none⟩ = some (.int .i64 t191) := (blk_cell BK193.out 1).trans rfl
             have hfz332_0 := blk_frozen BK193.out 0
             have hfz332_1 := blk_frozen BK193.out 1
             have hnb333 := NB170_169.out
             have hnc333 := NB169_170.out
             have hnb334 := NB170_171.out
             have hnc334 := NB171_170.out
             have hnb335 := NB170_176.out
             have hnc335 := NB176_170.out
             have hnb336 := NB170_184.out
             have hnc336 := NB184_170.out
             have hnb337 := NB170_187.out
             have hnc337 := NB187_170.out
             have hnb338 := NB170_197.out
             have hnc338 := NB197_170.out
             have hnb339 := NB170_198.out
             have hnc339 := NB198_170.out
             have hcz340_0 : wc.cell? ⟨gb170, 0, none⟩ = some (.int .i64 a1_0) := (blk_cell BK170.out 0).trans rfl
             have hcz340_1 : wc.cell? ⟨gb170, 1, none⟩ = some (.int .i64 a1_1) := (blk_cell BK170.out 1).trans rfl
             have hfz340_0 := blk_frozen BK170.out 0
             have hfz340_1 := blk_frozen BK170.out 1
             go_wp2
             go_meet
             case rel => exact ⟨_, (decide ((wrap64 (t190 + t191)) > (wrap64 (a1_0 + a1_1)))), (by first | rfl | (simp; done) | (simp [*]; done)), H', ⟨by have := HJ4.out; have := HJ31.out; have := HJ111.out; first | omega | exact Nat.le_refl _⟩, ⟨by (with_reducible repeat (first | refine blk_drewN ?_ _ | refine blk_drew ?_ | refine blk_alloc ?_ _)); exact BK169.out⟩, ⟨by (with_reducible repeat (first | refine blk_drewN ?_ _ | refine blk_drew ?_ | refine blk_alloc ?_ _)); exact BK170.out⟩, ⟨by (with_reducible repeat (first | refine blk_drewN ?_ _ | refine blk_drew ?_ | refine blk_alloc ?_ _)); exact BK171.out⟩, ⟨by (with_reducible repeat (first | refine blk_drewN ?_ _ | refine blk_drew ?_ | refine blk_alloc ?_ _)); exact BK176.out⟩, ⟨by (with_reducible repeat (first | refine blk_drewN ?_ _ | refine blk_drew ?_ | refine blk_alloc ?_ _)); exact BK184.out⟩, ⟨by (with_reducible repeat (first | refine blk_drewN ?_ _ | refine blk_drew ?_ | refine blk_alloc ?_ _)); exact BK187.out⟩, ⟨by (with_reducible repeat (first | refine blk_drewN ?_ _ | refine blk_drew ?_ | refine blk_alloc ?_ _)); exact BK193.out⟩, ⟨by (with_reducible repeat (first | refine blk_drewN ?_ _ | refine blk_drew ?_ | refine blk_alloc ?_ _)); exact BK197.out⟩, ⟨by (with_reducible repeat (first | refine blk_drewN ?_ _ | refine blk_drew ?_ | refine blk_alloc ?_ _)); exact BK198.out⟩, ⟨by repeat (first | (with_reducible first | exact HB.out | apply below_alloc | apply pw_below_drewN | apply below_drew1 | refine below_set ?_ GE169.out | refine below_set ?_ GE170.out | refine below_set ?_ GE171.out | refine below_set ?_ GE176.out | refine below_set ?_ GE184.out | refine below_set ?_ GE187.out | refine below_set ?_ GE193.out | refine below_set ?_ GE197.out | refine below_set ?_ GE198.out) | exact HB.out)⟩⟩
           ·rw [if_neg c305] at H
            have c305b0 : (t192 == 0) = false := beq_eq_false_iff_ne.mpr c305
            have c305b1 : (t192 != 0) = true := bne_iff_ne.mpr c305
            (first | rw [c305b0] | (simp only [i64_w, i32_w]; rw [c305b0]) | skip)
            have H' := Aside0.mk H
            clear H
            go_wp2
            go_meet
            case rel => exact ⟨_, (false), (by first | rfl | (simp; done) | (simp [*]; done)), H', ⟨by have := HJ4.out; have := HJ31.out; have := HJ111.out; first | omega | exact Nat.le_refl _⟩, ⟨by (with_reducible repeat (first | refine blk_drewN ?_ _ | refine blk_drew ?_ | refine blk_alloc ?_ _)); exact BK169.out⟩, ⟨by (with_reducible repeat (first | refine blk_drewN ?_ _ | refine blk_drew ?_ | refine blk_alloc ?_ _)); exact BK170.out⟩, ⟨by (with_reducible repeat (first | refine blk_drewN ?_ _ | refine blk_drew ?_ | refine blk_alloc ?_ _)); exact BK171.out⟩, ⟨by (with_reducible repeat (first | refine blk_drewN ?_ _ | refine blk_drew ?_ | refine blk_alloc ?_ _)); exact BK176.out⟩, ⟨by (with_reducible repeat (first | refine blk_drewN ?_ _ | refine blk_drew ?_ | refine blk_alloc ?_ _)); exact BK184.out⟩, ⟨by (with_reducible repeat (first | refine blk_drewN ?_ _ | refine blk_drew ?_ | refine blk_alloc ?_ _)); exact BK187.out⟩, ⟨by (with_reducible repeat (first | refine blk_drewN ?_ _ | refine blk_drew ?_ | refine blk_alloc ?_ _)); exact BK193.out⟩, ⟨by (with_reducible repeat (first | refine blk_drewN ?_ _ | refine blk_drew ?_ | refine blk_alloc ?_ _)); exact BK197.out⟩, ⟨by (with_reducible repeat (first | refine blk_drewN ?_ _ | refine blk_drew ?_ | refine blk_alloc ?_ _)); exact BK198.out⟩, ⟨by repeat (first | (with_reducible first | exact HB.out | apply below_alloc | apply pw_below_drewN | apply below_drew1 | refine below_set ?_ GE169.out | refine below_set ?_ GE170.out | refine below_set ?_ GE171.out | refine below_set ?_ GE176.out | refine below_set ?_ GE184.out | refine below_set ?_ GE187.out | refine below_set ?_ GE193.out | refine below_set ?_ GE197.out | refine below_set ?_ GE198.out) | exact HB.out)⟩⟩
          case rest => as_aux_lemma =>
           clear HC304
           try clear c1
           try clear c2
           try clear p2
           try clear c3
           try clear c5
           try clear c6
           try clear p6
           try clear c7
           try clear c8
           try clear c9
           try clear c10
           try clear c11
           try clear c12
           try clear c13
           try clear c14
           try clear c15
           try clear c16
           try clear c17
           try clear c18
           try clear c19
           try clear c20
           try clear c21
           try clear c22
           try clear c23
           try clear c24
           try clear c25
           try clear c26
           try clear c27
           try clear c28
           try clear c29
           try clear c30
           try clear c31
           try clear c32
           try clear c33
           try clear c34
           try clear c35
           try clear c59
           try clear c59b1
           try clear c60
           try clear c60b0
           try clear c60b1
           try clear c61
           try clear c62
           try clear c63
           try clear c64
           try clear p64
           try clear c65
           try clear c67
           try clear c68
           try clear c69
           try clear c70
           try clear c72
           try clear c73
           try clear c74
           try clear c76
           try clear c77
           try clear c78
           try clear c79
           try clear c80
           try clear c82
           try clear c83
           try clear c84
           try clear c85
           try clear c87
           try clear c88
           try clear c89
           try clear c91
           try clear c92
           try clear c93
           try clear c94
           try clear c95
           try clear c97
           try clear c98
           try clear c99
           try clear c100
           try clear c102
           try clear c103
           try clear c104
           try clear c105
           try clear c106
           try clear c108
           try clear c113
           try clear c114
           try clear c115
           try clear c116
           try clear c117
           try clear c119
           try clear c120
           try clear c121
           try clear c122
           try clear c129
           try clear c130
           try clear c131
           try clear c132
           try clear c133
           try clear c134
           try clear c140
           try clear c141
           try clear c142
           try clear c143
           try clear c144
           try clear c145
           try clear c146
           try clear c149
           try clear c150
           try clear c151
           try clear c152
           try clear c153
           try clear c154
           try clear c155
           try clear c156
           try clear c158
           try clear c158b0
           try clear c158b1
           try clear c159
           try clear c159b0
           try clear c160
           try clear c161
           try clear c162
           try clear c163
           try clear c164
           try clear c165
           try clear c166
           try clear c167
           try clear c169
           try clear c169b0
           try clear c170
           try clear c171
           try clear c172
           try clear c173
           try clear c174
           try clear c175
           try clear c176
           try clear c177
           try clear c179
           try clear c179b0
           try clear c179b1
           try clear c181
           try clear c182
           try clear c182b0
           try clear c182b1
           try clear c184
           try clear c185
           try clear c186
           try clear c187
           try clear c188
           try clear c189
           try clear c190
           try clear c191
           try clear c193
           try clear c194
           try clear c195
           try clear c196
           try clear c197
           try clear c198
           try clear c199
           try clear c201
           try clear c202
           try clear c203
           try clear c204
           try clear c205
           try clear c206
           try clear c210
           try clear c211
           try clear c212
           try clear c213
           try clear c214
           try clear c217
           try clear c218
           try clear c219
           try clear c220
           try clear c221
           try clear c222
           try clear c223
           try clear c224
           try clear c226
           try clear c227
           try clear c228
           try clear c229
           try clear c230
           try clear c231
           try clear c232
           try clear c234
           try clear c235
           try clear c236
           try clear c237
           try clear c238
           try clear c239
           try clear c242
           try clear c243
           try clear c244
           try clear c245
           try clear c246
           try clear c247
           try clear c248
           try clear c249
           try clear c251
           try clear c252
           try clear c253
           try clear c254
           try clear c255
           try clear c256
           try clear c257
           try clear c259
           try clear c260
           try clear c261
           try clear c262
           try clear c263
           try clear c264
           try clear c267
           try clear c267b0
           try clear c267b1
           try clear c269
           try clear c270
           try clear c271
           try clear c272
           try clear c273
           try clear c274
           try clear c275
           try clear c276
           try clear c278
           try clear c279
           try clear c280
           try clear c281
           try clear c282
           try clear c283
           try clear c284
           try clear c286
           try clear c287
           try clear c288
           try clear c289
           try clear c290
           try clear c291
           try clear c294
           try clear c295
           try clear c296
           try clear c297
           try clear c298
           try clear c299
           try clear c300
           try clear c301
           try clear c303
           try clear c305
           try clear c305b0
           try clear c305b1
           try clear c306
           try clear c306b0
           try clear c307
           try clear c308
           try clear c309
           try clear c310
           try clear c311
           try clear c312
           try clear c313
           try clear c314
           try clear c316
           try clear c317
           try clear c318
           try clear c319
           try clear c320
           try clear c321
           try clear c322
           try clear c324
           try clear c325
           try clear c326
           try clear c327
           try clear c328
           try clear c329
           try clear c330
           try clear c331
           try clear c333
           try clear c334
           try clear c335
           try clear c336
           try clear c337
           try clear c338
           try clear c339
           try clear hcz101_0
           try clear hcz101_1
           try clear hcz107_0
           try clear hcz107_1
           try clear hcz118_0
           try clear hcz118_1
           try clear hcz118_2
           try clear hcz11_0
           try clear hcz11_1
           try clear hcz123_0
           try clear hcz123_1
           try clear hcz125_0
           try clear hcz125_1
           try clear hcz125_2
           try clear hcz126_0
           try clear hcz126_1
           try clear hcz135_0
           try clear hcz135_1
           try clear hcz136_0
           try clear hcz136_1
           try clear hcz136_2
           try clear hcz137_0
           try clear hcz137_1
           try clear hcz13_0
           try clear hcz13_1
           try clear hcz13_2
           try clear hcz147_0
           try clear hcz147_1
           try clear hcz157_0
           try clear hcz157_1
           try clear hcz168_0
           try clear hcz168_1
           try clear hcz178_0
           try clear hcz178_1
           try clear hcz192_0
           try clear hcz192_1
           try clear hcz19_0
           try clear hcz19_1
           try clear hcz19_2
           try clear hcz200_0
           try clear hcz200_1
           try clear hcz207_0
           try clear hcz207_1
           try clear hcz209_0
           try clear hcz209_1
           try clear hcz215_0
           try clear hcz215_1
           try clear hcz225_0
           try clear hcz225_1
           try clear hcz233_0
           try clear hcz233_1
           try clear hcz240_0
           try clear hcz240_1
           try clear hcz24_0
           try clear hcz24_1
           try clear hcz250_0
           try clear hcz250_1
           try clear hcz258_0
           try clear hcz258_1
           try clear hcz265_0
           try clear hcz265_1
           try clear hcz277_0
           try clear hcz277_1
           try clear hcz285_0
           try clear hcz285_1
           try clear hcz292_0
           try clear hcz292_1
           try clear hcz302_0
           try clear hcz302_1
           try clear hcz315_0
           try clear hcz315_1
           try clear hcz323_0
           try clear hcz323_1
           try clear hcz332_0
           try clear hcz332_1
           try clear hcz340_0
           try clear hcz340_1
           try clear hcz36_0
           try clear hcz36_1
           try clear hcz36_2
           try clear hcz38_0
           try clear hcz38_1
           try clear hcz38_2
           try clear hcz40_0
           try clear hcz40_1
           try clear hcz40_2
           try clear hcz47_0
           try clear hcz47_1
           try clear hcz48_0
           try clear hcz48_1
           try clear hcz48_2
           try clear hcz56_0
           try clear hcz56_1
           try clear hcz66_0
           try clear hcz66_1
           try clear hcz71_0
           try clear hcz71_1
           try clear hcz75_0
           try clear hcz75_1
           try clear hcz75_2
           try clear hcz81_0
           try clear hcz81_1
           try clear hcz86_0
           try clear hcz86_1
           try clear hcz90_0
           try clear hcz90_1
           try clear hcz90_2
           try clear hcz96_0
           try clear hcz96_1
           try clear hfz101_0
           try clear hfz101_1
           try clear hfz107_0
           try clear hfz107_1
           try clear hfz118_0
           try clear hfz118_1
           try clear hfz118_2
           try clear hfz11_0
           try clear hfz11_1
           try clear hfz123_0
           try clear hfz123_1
           try clear hfz125_0
           try clear hfz125_1
           try clear hfz125_2
           try clear hfz126_0
           try clear hfz126_1
           try clear hfz135_0
           try clear hfz135_1
           try clear hfz136_0
           try clear hfz136_1
           try clear hfz136_2
           try clear hfz137_0
           try clear hfz137_1
           try clear hfz13_0
           try clear hfz13_1
           try clear hfz13_2
           try clear hfz147_0
           try clear hfz147_1
           try clear hfz157_0
           try clear hfz157_1
           try clear hfz168_0
           try clear hfz168_1
           try clear hfz178_0
           try clear hfz178_1
           try clear hfz192_0
           try clear hfz192_1
           try clear hfz19_0
           try clear hfz19_1
           try clear hfz19_2
           try clear hfz200_0
           try clear hfz200_1
           try clear hfz207_0
           try clear hfz207_1
           try clear hfz209_0
           try clear hfz209_1
           try clear hfz215_0
           try clear hfz215_1
           try clear hfz225_0
           try clear hfz225_1
           try clear hfz233_0
           try clear hfz233_1
           try clear hfz240_0
           try clear hfz240_1
           try clear hfz24_0
           try clear hfz24_1
           try clear hfz250_0
           try clear hfz250_1
           try clear hfz258_0
           try clear hfz258_1
           try clear hfz265_0
           try clear hfz265_1
           try clear hfz277_0
           try clear hfz277_1
           try clear hfz285_0
           try clear hfz285_1
           try clear hfz292_0
           try clear hfz292_1
           try clear hfz302_0
           try clear hfz302_1
           try clear hfz315_0
           try clear hfz315_1
           try clear hfz323_0
           try clear hfz323_1
           try clear hfz332_0
           try clear hfz332_1
           try clear hfz340_0
           try clear hfz340_1
           try clear hfz36_0
           try clear hfz36_1
           try clear hfz36_2
           try clear hfz38_0
           try clear hfz38_1
           try clear hfz38_2
           try clear hfz40_0
           try clear hfz40_1
           try clear hfz40_2
           try clear hfz47_0
           try clear hfz47_1
           try clear hfz48_0
           try clear hfz48_1
           try clear hfz48_2
           try clear hfz56_0
           try clear hfz56_1
           try clear hfz66_0
           try clear hfz66_1
           try clear hfz71_0
           try clear hfz71_1
           try clear hfz75_0
           try clear hfz75_1
           try clear hfz75_2
           try clear hfz81_0
           try clear hfz81_1
           try clear hfz86_0
           try clear hfz86_1
           try clear hfz90_0
           try clear hfz90_1
           try clear hfz90_2
           try clear hfz96_0
           try clear hfz96_1
           try clear p2
           try clear p6
           try clear p64
           obtain ⟨kq, x170_303, rfl, HA, HJ303, BK169, BK170, BK171, BK176, BK184, BK187, BK193, BK197, BK198, HB⟩ := hcut
           cases kq with
           | zero => exact absurd HA.out (by simp [oakumlaw10_LayoutApart.j3])
           | succ kj303 =>
            have H := HA.out
            clear HA
            simp only [oakumlaw10_LayoutApart.j3] at H
            by_cases c341 : x170_303 = true
            ·subst c341
             have H1 : (some false) = some r := by rw [if_pos rfl] at H; exact H
             clear H
             have H := H1
             clear H1
             exact absurd ((Option.some.inj H).trans hrt.out) (by decide)
            ·replace c341 := Bool.eq_false_iff.mpr c341
             subst c341
             have H1 : ((oakumlaw10_alive.f kj303).bind fun t202 => (if t202 = true then (if t192 = 0 then (if t196 = 0 then (if a2_0 = a2_1 then (some true) else ((oakumlaw10_apart.f t190 t191 t194 t195).bind fun t203 => (some t203))) else (some true)) else (some true)) else (some false))) = some r := by rw [if_neg (show ¬ (false = true) by decide)] at H; exact H
             clear H
             have H := H1
             clear H1
             replace H := Option.bind_eq_some_iff.mp H
             obtain ⟨t202, A3420, H⟩ := H
             replace H : (if t202 = true then (if t192 = 0 then (if t196 = 0 then (if a2_0 = a2_1 then (some true) else ((oakumlaw10_apart.f t190 t191 t194 t195).bind fun t203 => (some t203))) else (some true)) else (some true)) else (some false)) = some r := H
             have A342 := Aside0.mk A3420
             clear A3420
             by_cases c343 : t202 = true
             ·subst c343
              have H1 : (if t192 = 0 then (if t196 = 0 then (if a2_0 = a2_1 then (some true) else ((oakumlaw10_apart.f t190 t191 t194 t195).bind fun t203 => (some t203))) else (some true)) else (some true)) = some r := by rw [if_pos rfl] at H; exact H
              clear H
              have H := H1
              clear H1
              by_cases c344 : t192 = 0
              ·rw [if_pos c344] at H
               have c344b0 : (t192 == 0) = true := beq_iff_eq.mpr c344
               have c344b1 : (t192 != 0) = false := bne_eq_false_iff_eq.mpr c344
               clear c344
               by_cases c345 : t196 = 0
               ·rw [if_pos c345] at H
                have c345b0 : (t196 == 0) = true := beq_iff_eq.mpr c345
                have c345b1 : (t196 != 0) = false := bne_eq_false_iff_eq.mpr c345
                clear c345
                by_cases c346 : a2_0 = a2_1
                ·rw [if_pos c346] at H
                 have c346b0 : (a2_0 == a2_1) = true := beq_iff_eq.mpr c346
                 have c346b1 : (a2_0 != a2_1) = false := bne_eq_false_iff_eq.mpr c346
                 clear c346
                 obtain rfl := Option.some.inj H
                 go_wp2_with (first | ((with_reducible refine gate_callee (f := 29) rfl ?_); refine goesL_ (some 171) rfl rfl Try.func29 (by kernel_rfl) rfl #[] rfl (by (try simp only [List.map_toArray, List.map_cons, List.map_nil]); first | done | rfl | (simp only [List.length_drop, List.length_take]; rfl)) ?_; (with_reducible refine (oakumlaw10_alive.calls kj303  true _ A342.out).mono ?_); rintro e w347 ⟨rfl, hb⟩; refine ⟨_, rfl, ?_⟩; have n0_ := Aside0.mk (blk_below (g := gb169) (o := .cells #[.int .i64 a0_0, .int .i64 a0_1, .int .i64 a0_2] 49 (0, 0)) (by (with_reducible repeat (first | refine blk_drewN ?_ _ | refine blk_drew ?_ | refine blk_alloc ?_ _)); exact BK169.out) hb); have n1_ := Aside0.mk (blk_below (g := gb170) (o := .cells #[.int .i64 a1_0, .int .i64 a1_1] 25 (0, 0)) (by (with_reducible repeat (first | refine blk_drewN ?_ _ | refine blk_drew ?_ | refine blk_alloc ?_ _)); exact BK170.out) hb); have n2_ := Aside0.mk (blk_below (g := gb171) (o := .cells #[.int .i64 a2_0, .int .i64 a2_1] 59 (0, 0)) (by (with_reducible repeat (first | refine blk_drewN ?_ _ | refine blk_drew ?_ | refine blk_alloc ?_ _)); exact BK171.out) hb); have n3_ := Aside0.mk (blk_below (g := gb176) (o := .cells #[.int .i64 t172, .int .i64 t173, .int .i64 t174] 51 (0, 0)) (by (with_reducible repeat (first | refine blk_drewN ?_ _ | refine blk_drew ?_ | refine blk_alloc ?_ _)); exact BK176.out) hb); have n4_ := Aside0.mk (blk_below (g := gb184) (o := .cells #[.int .i64 t182, .int .i64 t183] 25 (0, 0)) (by (with_reducible repeat (first | refine blk_drewN ?_ _ | refine blk_drew ?_ | refine blk_alloc ?_ _)); exact BK184.out) hb); have n5_ := Aside0.mk (blk_below (g := gb187) (o := .cells #[.int .i64 t185, .int .i64 t186] 25 (0, 0)) (by (with_reducible repeat (first | refine blk_drewN ?_ _ | refine blk_drew ?_ | refine blk_alloc ?_ _)); exact BK187.out) hb); have n6_ := Aside0.mk (blk_below (g := gb193) (o := .cells #[.int .i64 t190, .int .i64 t191] 25 (0, 0)) (by (with_reducible repeat (first | refine blk_drewN ?_ _ | refine blk_drew ?_ | refine blk_alloc ?_ _)); exact BK193.out) hb); have n7_ := Aside0.mk (blk_below (g := gb197) (o := .cells #[.int .i64 t194, .int .i64 t195] 25 (0, 0)) (by (with_reducible repeat (first | refine blk_drewN ?_ _ | refine blk_drew ?_ | refine blk_alloc ?_ _)); exact BK197.out) hb); have n8_ := Aside0.mk (blk_below (g := gb198) (o := .cells #[.int .i64 t188, .int .i64 1] 25 (0, 0)) (by (with_reducible repeat (first | refine blk_drewN ?_ _ | refine blk_drew ?_ | refine blk_alloc ?_ _)); exact BK198.out) hb); have n9_ := Aside0.mk (below_step (by repeat (first | (with_reducible first | exact HB.out | apply below_alloc | apply pw_below_drewN | apply below_drew1 | refine below_set ?_ GE169.out | refine below_set ?_ GE170.out | refine below_set ?_ GE171.out | refine below_set ?_ GE176.out | refine below_set ?_ GE184.out | refine below_set ?_ GE187.out | refine below_set ?_ GE193.out | refine below_set ?_ GE197.out | refine below_set ?_ GE198.out) | exact HB.out)) hb); clear BK169; clear BK170; clear BK171; clear BK176; clear BK184; clear BK187; clear BK193; clear BK197; clear BK198; clear HB; have BK169 := n0_; have BK170 := n1_; have BK171 := n2_; have BK176 := n3_; have BK184 := n4_; have BK187 := n5_; have BK193 := n6_; have BK197 := n7_; have BK198 := n8_; have HB := n9_; clear n0_ n1_ n2_ n3_ n4_ n5_ n6_ n7_ n8_ n9_; (try clear hb); (try clear hb2); (try clear hk); (try clear hi)))
                 go_ret
                 exact ⟨by first | rfl | (simp [errW_none, errW_some] <;> rfl) | (simp [*, errW_none, errW_some] <;> rfl), by repeat (first | (with_reducible first | exact HB.out | apply below_alloc | apply pw_below_drewN | apply below_drew1 | refine below_set ?_ GE169.out | refine below_set ?_ GE170.out | refine below_set ?_ GE171.out | refine below_set ?_ GE176.out | refine below_set ?_ GE184.out | refine below_set ?_ GE187.out | refine below_set ?_ GE193.out | refine below_set ?_ GE197.out | refine below_set ?_ GE198.out) | exact HB.out)⟩
                ·rw [if_neg c346] at H
                 have c346b0 : (a2_0 == a2_1) = false := beq_eq_false_iff_ne.mpr c346
                 have c346b1 : (a2_0 != a2_1) = true := bne_iff_ne.mpr c346
                 replace H := Option.bind_eq_some_iff.mp H
                 obtain ⟨t203, A3480, H⟩ := H
                 replace H : (some t203) = some r := H
                 have A348 := Aside0.mk A3480
                 clear A3480
                 obtain rfl := Option.some.inj H
                 go_wp2_with (first | ((with_reducible refine gate_callee (f := 29) rfl ?_); refine goesL_ (some 171) rfl rfl Try.func29 (by kernel_rfl) rfl #[] rfl (by (try simp only [List.map_toArray, List.map_cons, List.map_nil]); first | done | rfl | (simp only [List.length_drop, List.length_take]; rfl)) ?_; (with_reducible refine (oakumlaw10_alive.calls kj303  true _ A342.out).mono ?_); rintro e w349 ⟨rfl, hb⟩; refine ⟨_, rfl, ?_⟩; have n0_ := Aside0.mk (blk_below (g := gb169) (o := .cells #[.int .i64 a0_0, .int .i64 a0_1, .int .i64 a0_2] 49 (0, 0)) (by (with_reducible repeat (first | refine blk_drewN ?_ _ | refine blk_drew ?_ | refine blk_alloc ?_ _)); exact BK169.out) hb); have n1_ := Aside0.mk (blk_below (g := gb170) (o := .cells #[.int .i64 a1_0, .int .i64 a1_1] 25 (0, 0)) (by (with_reducible repeat (first | refine blk_drewN ?_ _ | refine blk_drew ?_ | refine blk_alloc ?_ _)); exact BK170.out) hb); have n2_ := Aside0.mk (blk_below (g := gb171) (o := .cells #[.int .i64 a2_0, .int .i64 a2_1] 59 (0, 0)) (by (with_reducible repeat (first | refine blk_drewN ?_ _ | refine blk_drew ?_ | refine blk_alloc ?_ _)); exact BK171.out) hb); have n3_ := Aside0.mk (blk_below (g := gb176) (o := .cells #[.int .i64 t172, .int .i64 t173, .int .i64 t174] 51 (0, 0)) (by (with_reducible repeat (first | refine blk_drewN ?_ _ | refine blk_drew ?_ | refine blk_alloc ?_ _)); exact BK176.out) hb); have n4_ := Aside0.mk (blk_below (g := gb184) (o := .cells #[.int .i64 t182, .int .i64 t183] 25 (0, 0)) (by (with_reducible repeat (first | refine blk_drewN ?_ _ | refine blk_drew ?_ | refine blk_alloc ?_ _)); exact BK184.out) hb); have n5_ := Aside0.mk (blk_below (g := gb187) (o := .cells #[.int .i64 t185, .int .i64 t186] 25 (0, 0)) (by (with_reducible repeat (first | refine blk_drewN ?_ _ | refine blk_drew ?_ | refine blk_alloc ?_ _)); exact BK187.out) hb); have n6_ := Aside0.mk (blk_below (g := gb193) (o := .cells #[.int .i64 t190, .int .i64 t191] 25 (0, 0)) (by (with_reducible repeat (first | refine blk_drewN ?_ _ | refine blk_drew ?_ | refine blk_alloc ?_ _)); exact BK193.out) hb); have n7_ := Aside0.mk (blk_below (g := gb197) (o := .cells #[.int .i64 t194, .int .i64 t195] 25 (0, 0)) (by (with_reducible repeat (first | refine blk_drewN ?_ _ | refine blk_drew ?_ | refine blk_alloc ?_ _)); exact BK197.out) hb); have n8_ := Aside0.mk (blk_below (g := gb198) (o := .cells #[.int .i64 t188, .int .i64 1] 25 (0, 0)) (by (with_reducible repeat (first | refine blk_drewN ?_ _ | refine blk_drew ?_ | refine blk_alloc ?_ _)); exact BK198.out) hb); have n9_ := Aside0.mk (below_step (by repeat (first | (with_reducible first | exact HB.out | apply below_alloc | apply pw_below_drewN | apply below_drew1 | refine below_set ?_ GE169.out | refine below_set ?_ GE170.out | refine below_set ?_ GE171.out | refine below_set ?_ GE176.out | refine below_set ?_ GE184.out | refine below_set ?_ GE187.out | refine below_set ?_ GE193.out | refine below_set ?_ GE197.out | refine below_set ?_ GE198.out) | exact HB.out)) hb); clear BK169; clear BK170; clear BK171; clear BK176; clear BK184; clear BK187; clear BK193; clear BK197; clear BK198; clear HB; have BK169 := n0_; have BK170 := n1_; have BK171 := n2_; have BK176 := n3_; have BK184 := n4_; have BK187 := n5_; have BK193 := n6_; have BK197 := n7_; have BK198 := n8_; have HB := n9_; clear n0_ n1_ n2_ n3_ n4_ n5_ n6_ n7_ n8_ n9_; (try clear hb); (try clear hb2); (try clear hk); (try clear hi); have hnb350 := NB193_169.out; have hnc350 := NB169_193.out; have hnb351 := NB193_170.out; have hnc351 := NB170_193.out; have hnb352 := NB193_171.out; have hnc352 := NB171_193.out; have hnb353 := NB193_176.out; have hnc353 := NB176_193.out; have hnb354 := NB193_184.out; have hnc354 := NB184_193.out; have hnb355 := NB193_187.out; have hnc355 := NB187_193.out; have hnb356 := NB193_197.out; have hnc356 := NB197_193.out; have hnb357 := NB193_198.out; have hnc357 := NB198_193.out; have hcz358_0 : w349.cell? ⟨gb193, 0, none⟩ = some (.int .i64 t190) := (blk_cell BK193.out 0).trans rfl; have hcz358_1 : w349.cell? ⟨gb193, 1, none⟩ = some (.int .i64 t191) := (blk_cell BK193.out 1).trans rfl; have hfz358_0 := blk_frozen BK193.out 0; have hfz358_1 := blk_frozen BK193.out 1; have hnb359 := NB197_169.out; have hnc359 := NB169_197.out; have hnb360 := NB197_170.out; have hnc360 := NB170_197.out; have hnb361 := NB197_171.out; have hnc361 := NB171_197.out; have hnb362 := NB197_176.out; have hnc362 := NB176_197.out; have hnb363 := NB197_184.out; have hnc363 := NB184_197.out; have hnb364 := NB197_187.out; have hnc364 := NB187_197.out; have hnb365 := NB197_198.out; have hnc365 := NB198_197.out; have hcz366_0 : w349.cell? ⟨gb197, 0, none⟩ = some (.int .i64 t194) := (blk_cell BK197.out 0).trans rfl; have hcz366_1 : w349.cell? ⟨gb197, 1, none⟩ = some (.int .i64 t195) := (blk_cell BK197.out 1).trans rfl; have hfz366_0 := blk_frozen BK197.out 0; have hfz366_1 := blk_frozen BK197.out 1) | (go_at_call 36; (with_reducible refine (oakumlaw10_apart.calls t190 t191 t194 t195 t203 _ A348.out).mono ?_); rintro e w367 ⟨rfl, hb⟩; have n0_ := Aside0.mk (blk_below (g := gb169) (o := .cells #[.int .i64 a0_0, .int .i64 a0_1, .int .i64 a0_2] 49 (0, 0)) (by (with_reducible repeat (first | refine blk_drewN ?_ _ | refine blk_drew ?_ | refine blk_alloc ?_ _)); exact BK169.out) hb); have n1_ := Aside0.mk (blk_below (g := gb170) (o := .cells #[.int .i64 a1_0, .int .i64 a1_1] 25 (0, 0)) (by (with_reducible repeat (first | refine blk_drewN ?_ _ | refine blk_drew ?_ | refine blk_alloc ?_ _)); exact BK170.out) hb); have n2_ := Aside0.mk (blk_below (g := gb171) (o := .cells #[.int .i64 a2_0, .int .i64 a2_1] 59 (0, 0)) (by (with_reducible repeat (first | refine blk_drewN ?_ _ | refine blk_drew ?_ | refine blk_alloc ?_ _)); exact BK171.out) hb); have n3_ := Aside0.mk (blk_below (g := gb176) (o := .cells #[.int .i64 t172, .int .i64 t173, .int .i64 t174] 51 (0, 0)) (by (with_reducible repeat (first | refine blk_drewN ?_ _ | refine blk_drew ?_ | refine blk_alloc ?_ _)); exact BK176.out) hb); have n4_ := Aside0.mk (blk_below (g := gb184) (o := .cells #[.int .i64 t182, .int .i64 t183] 25 (0, 0)) (by (with_reducible repeat (first | refine blk_drewN ?_ _ | refine blk_drew ?_ | refine blk_alloc ?_ _)); exact BK184.out) hb); have n5_ := Aside0.mk (blk_below (g := gb187) (o := .cells #[.int .i64 t185, .int .i64 t186] 25 (0, 0)) (by (with_reducible repeat (first | refine blk_drewN ?_ _ | refine blk_drew ?_ | refine blk_alloc ?_ _)); exact BK187.out) hb); have n6_ := Aside0.mk (blk_below (g := gb193) (o := .cells #[.int .i64 t190, .int .i64 t191] 25 (0, 0)) (by (with_reducible repeat (first | refine blk_drewN ?_ _ | refine blk_drew ?_ | refine blk_alloc ?_ _)); exact BK193.out) hb); have n7_ := Aside0.mk (blk_below (g := gb197) (o := .cells #[.int .i64 t194, .int .i64 t195] 25 (0, 0)) (by (with_reducible repeat (first | refine blk_drewN ?_ _ | refine blk_drew ?_ | refine blk_alloc ?_ _)); exact BK197.out) hb); have n8_ := Aside0.mk (blk_below (g := gb198) (o := .cells #[.int .i64 t188, .int .i64 1] 25 (0, 0)) (by (with_reducible repeat (first | refine blk_drewN ?_ _ | refine blk_drew ?_ | refine blk_alloc ?_ _)); exact BK198.out) hb); have n9_ := Aside0.mk (below_step (by repeat (first | (with_reducible first | exact HB.out | apply below_alloc | apply pw_below_drewN | apply below_drew1 | refine below_set ?_ GE169.out | refine below_set ?_ GE170.out | refine below_set ?_ GE171.out | refine below_set ?_ GE176.out | refine below_set ?_ GE184.out | refine below_set ?_ GE187.out | refine below_set ?_ GE193.out | refine below_set ?_ GE197.out | refine below_set ?_ GE198.out) | exact HB.out)) hb); clear BK169; clear BK170; clear BK171; clear BK176; clear BK184; clear BK187; clear BK193; clear BK197; clear BK198; clear HB; have BK169 := n0_; have BK170 := n1_; have BK171 := n2_; have BK176 := n3_; have BK184 := n4_; have BK187 := n5_; have BK193 := n6_; have BK197 := n7_; have BK198 := n8_; have HB := n9_; clear n0_ n1_ n2_ n3_ n4_ n5_ n6_ n7_ n8_ n9_; (try clear hb); (try clear hb2); (try clear hk); (try clear hi)))
                 go_ret
                 exact ⟨by first | rfl | (simp [errW_none, errW_some] <;> rfl) | (simp [*, errW_none, errW_some] <;> rfl), by repeat (first | (with_reducible first | exact HB.out | apply below_alloc | apply pw_below_drewN | apply below_drew1 | refine below_set ?_ GE169.out | refine below_set ?_ GE170.out | refine below_set ?_ GE171.out | refine below_set ?_ GE176.out | refine below_set ?_ GE184.out | refine below_set ?_ GE187.out | refine below_set ?_ GE193.out | refine below_set ?_ GE197.out | refine below_set ?_ GE198.out) | exact HB.out)⟩
               ·rw [if_neg c345] at H
                have c345b0 : (t196 == 0) = false := beq_eq_false_iff_ne.mpr c345
                have c345b1 : (t196 != 0) = true := bne_iff_ne.mpr c345
                obtain rfl := Option.some.inj H
                go_wp2_with (first | ((with_reducible refine gate_callee (f := 29) rfl ?_); refine goesL_ (some 171) rfl rfl Try.func29 (by kernel_rfl) rfl #[] rfl (by (try simp only [List.map_toArray, List.map_cons, List.map_nil]); first | done | rfl | (simp only [List.length_drop, List.length_take]; rfl)) ?_; (with_reducible refine (oakumlaw10_alive.calls kj303  true _ A342.out).mono ?_); rintro e w368 ⟨rfl, hb⟩; refine ⟨_, rfl, ?_⟩; have n0_ := Aside0.mk (blk_below (g := gb169) (o := .cells #[.int .i64 a0_0, .int .i64 a0_1, .int .i64 a0_2] 49 (0, 0)) (by (with_reducible repeat (first | refine blk_drewN ?_ _ | refine blk_drew ?_ | refine blk_alloc ?_ _)); exact BK169.out) hb); have n1_ := Aside0.mk (blk_below (g := gb170) (o := .cells #[.int .i64 a1_0, .int .i64 a1_1] 25 (0, 0)) (by (with_reducible repeat (first | refine blk_drewN ?_ _ | refine blk_drew ?_ | refine blk_alloc ?_ _)); exact BK170.out) hb); have n2_ := Aside0.mk (blk_below (g := gb171) (o := .cells #[.int .i64 a2_0, .int .i64 a2_1] 59 (0, 0)) (by (with_reducible repeat (first | refine blk_drewN ?_ _ | refine blk_drew ?_ | refine blk_alloc ?_ _)); exact BK171.out) hb); have n3_ := Aside0.mk (blk_below (g := gb176) (o := .cells #[.int .i64 t172, .int .i64 t173, .int .i64 t174] 51 (0, 0)) (by (with_reducible repeat (first | refine blk_drewN ?_ _ | refine blk_drew ?_ | refine blk_alloc ?_ _)); exact BK176.out) hb); have n4_ := Aside0.mk (blk_below (g := gb184) (o := .cells #[.int .i64 t182, .int .i64 t183] 25 (0, 0)) (by (with_reducible repeat (first | refine blk_drewN ?_ _ | refine blk_drew ?_ | refine blk_alloc ?_ _)); exact BK184.out) hb); have n5_ := Aside0.mk (blk_below (g := gb187) (o := .cells #[.int .i64 t185, .int .i64 t186] 25 (0, 0)) (by (with_reducible repeat (first | refine blk_drewN ?_ _ | refine blk_drew ?_ | refine blk_alloc ?_ _)); exact BK187.out) hb); have n6_ := Aside0.mk (blk_below (g := gb193) (o := .cells #[.int .i64 t190, .int .i64 t191] 25 (0, 0)) (by (with_reducible repeat (first | refine blk_drewN ?_ _ | refine blk_drew ?_ | refine blk_alloc ?_ _)); exact BK193.out) hb); have n7_ := Aside0.mk (blk_below (g := gb197) (o := .cells #[.int .i64 t194, .int .i64 t195] 25 (0, 0)) (by (with_reducible repeat (first | refine blk_drewN ?_ _ | refine blk_drew ?_ | refine blk_alloc ?_ _)); exact BK197.out) hb); have n8_ := Aside0.mk (blk_below (g := gb198) (o := .cells #[.int .i64 t188, .int .i64 1] 25 (0, 0)) (by (with_reducible repeat (first | refine blk_drewN ?_ _ | refine blk_drew ?_ | refine blk_alloc ?_ _)); exact BK198.out) hb); have n9_ := Aside0.mk (below_step (by repeat (first | (with_reducible first | exact HB.out | apply below_alloc | apply pw_below_drewN | apply below_drew1 | refine below_set ?_ GE169.out | refine below_set ?_ GE170.out | refine below_set ?_ GE171.out | refine below_set ?_ GE176.out | refine below_set ?_ GE184.out | refine below_set ?_ GE187.out | refine below_set ?_ GE193.out | refine below_set ?_ GE197.out | refine below_set ?_ GE198.out) | exact HB.out)) hb); clear BK169; clear BK170; clear BK171; clear BK176; clear BK184; clear BK187; clear BK193; clear BK197; clear BK198; clear HB; have BK169 := n0_; have BK170 := n1_; have BK171 := n2_; have BK176 := n3_; have BK184 := n4_; have BK187 := n5_; have BK193 := n6_; have BK197 := n7_; have BK198 := n8_; have HB := n9_; clear n0_ n1_ n2_ n3_ n4_ n5_ n6_ n7_ n8_ n9_; (try clear hb); (try clear hb2); (try clear hk); (try clear hi)))
                go_ret
                exact ⟨by first | rfl | (simp [errW_none, errW_some] <;> rfl) | (simp [*, errW_none, errW_some] <;> rfl), by repeat (first | (with_reducible first | exact HB.out | apply below_alloc | apply pw_below_drewN | apply below_drew1 | refine below_set ?_ GE169.out | refine below_set ?_ GE170.out | refine below_set ?_ GE171.out | refine below_set ?_ GE176.out | refine below_set ?_ GE184.out | refine below_set ?_ GE187.out | refine below_set ?_ GE193.out | refine below_set ?_ GE197.out | refine below_set ?_ GE198.out) | exact HB.out)⟩
              ·rw [if_neg c344] at H
               have c344b0 : (t192 == 0) = false := beq_eq_false_iff_ne.mpr c344
               have c344b1 : (t192 != 0) = true := bne_iff_ne.mpr c344
               obtain rfl := Option.some.inj H
               go_wp2_with (first | ((with_reducible refine gate_callee (f := 29) rfl ?_); refine goesL_ (some 171) rfl rfl Try.func29 (by kernel_rfl) rfl #[] rfl (by (try simp only [List.map_toArray, List.map_cons, List.map_nil]); first | done | rfl | (simp only [List.length_drop, List.length_take]; rfl)) ?_; (with_reducible refine (oakumlaw10_alive.calls kj303  true _ A342.out).mono ?_); rintro e w369 ⟨rfl, hb⟩; refine ⟨_, rfl, ?_⟩; have n0_ := Aside0.mk (blk_below (g := gb169) (o := .cells #[.int .i64 a0_0, .int .i64 a0_1, .int .i64 a0_2] 49 (0, 0)) (by (with_reducible repeat (first | refine blk_drewN ?_ _ | refine blk_drew ?_ | refine blk_alloc ?_ _)); exact BK169.out) hb); have n1_ := Aside0.mk (blk_below (g := gb170) (o := .cells #[.int .i64 a1_0, .int .i64 a1_1] 25 (0, 0)) (by (with_reducible repeat (first | refine blk_drewN ?_ _ | refine blk_drew ?_ | refine blk_alloc ?_ _)); exact BK170.out) hb); have n2_ := Aside0.mk (blk_below (g := gb171) (o := .cells #[.int .i64 a2_0, .int .i64 a2_1] 59 (0, 0)) (by (with_reducible repeat (first | refine blk_drewN ?_ _ | refine blk_drew ?_ | refine blk_alloc ?_ _)); exact BK171.out) hb); have n3_ := Aside0.mk (blk_below (g := gb176) (o := .cells #[.int .i64 t172, .int .i64 t173, .int .i64 t174] 51 (0, 0)) (by (with_reducible repeat (first | refine blk_drewN ?_ _ | refine blk_drew ?_ | refine blk_alloc ?_ _)); exact BK176.out) hb); have n4_ := Aside0.mk (blk_below (g := gb184) (o := .cells #[.int .i64 t182, .int .i64 t183] 25 (0, 0)) (by (with_reducible repeat (first | refine blk_drewN ?_ _ | refine blk_drew ?_ | refine blk_alloc ?_ _)); exact BK184.out) hb); have n5_ := Aside0.mk (blk_below (g := gb187) (o := .cells #[.int .i64 t185, .int .i64 t186] 25 (0, 0)) (by (with_reducible repeat (first | refine blk_drewN ?_ _ | refine blk_drew ?_ | refine blk_alloc ?_ _)); exact BK187.out) hb); have n6_ := Aside0.mk (blk_below (g := gb193) (o := .cells #[.int .i64 t190, .int .i64 t191] 25 (0, 0)) (by (with_reducible repeat (first | refine blk_drewN ?_ _ | refine blk_drew ?_ | refine blk_alloc ?_ _)); exact BK193.out) hb); have n7_ := Aside0.mk (blk_below (g := gb197) (o := .cells #[.int .i64 t194, .int .i64 t195] 25 (0, 0)) (by (with_reducible repeat (first | refine blk_drewN ?_ _ | refine blk_drew ?_ | refine blk_alloc ?_ _)); exact BK197.out) hb); have n8_ := Aside0.mk (blk_below (g := gb198) (o := .cells #[.int .i64 t188, .int .i64 1] 25 (0, 0)) (by (with_reducible repeat (first | refine blk_drewN ?_ _ | refine blk_drew ?_ | refine blk_alloc ?_ _)); exact BK198.out) hb); have n9_ := Aside0.mk (below_step (by repeat (first | (with_reducible first | exact HB.out | apply below_alloc | apply pw_below_drewN | apply below_drew1 | refine below_set ?_ GE169.out | refine below_set ?_ GE170.out | refine below_set ?_ GE171.out | refine below_set ?_ GE176.out | refine below_set ?_ GE184.out | refine below_set ?_ GE187.out | refine below_set ?_ GE193.out | refine below_set ?_ GE197.out | refine below_set ?_ GE198.out) | exact HB.out)) hb); clear BK169; clear BK170; clear BK171; clear BK176; clear BK184; clear BK187; clear BK193; clear BK197; clear BK198; clear HB; have BK169 := n0_; have BK170 := n1_; have BK171 := n2_; have BK176 := n3_; have BK184 := n4_; have BK187 := n5_; have BK193 := n6_; have BK197 := n7_; have BK198 := n8_; have HB := n9_; clear n0_ n1_ n2_ n3_ n4_ n5_ n6_ n7_ n8_ n9_; (try clear hb); (try clear hb2); (try clear hk); (try clear hi)))
               go_ret
               exact ⟨by first | rfl | (simp [errW_none, errW_some] <;> rfl) | (simp [*, errW_none, errW_some] <;> rfl), by repeat (first | (with_reducible first | exact HB.out | apply below_alloc | apply pw_below_drewN | apply below_drew1 | refine below_set ?_ GE169.out | refine below_set ?_ GE170.out | refine below_set ?_ GE171.out | refine below_set ?_ GE176.out | refine below_set ?_ GE184.out | refine below_set ?_ GE187.out | refine below_set ?_ GE193.out | refine below_set ?_ GE197.out | refine below_set ?_ GE198.out) | exact HB.out)⟩
             ·replace c343 := Bool.eq_false_iff.mpr c343
              subst c343
              have H1 : (some false) = some r := by rw [if_neg (show ¬ (false = true) by decide)] at H; exact H
              clear H
              have H := H1
              clear H1
              exact absurd ((Option.some.inj H).trans hrt.out) (by decide)

end Go.Proofs.Ytfkbcldeohblpaa.PLayoutApart
