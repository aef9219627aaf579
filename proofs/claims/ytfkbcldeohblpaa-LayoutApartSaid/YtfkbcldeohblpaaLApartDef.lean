/- Contracts of functions 7, laid by wip/tools (ownprint.py, sections.py). -/
import Derived.Test.YtfkbcldeohblpaaLAAlive
namespace Go.Proofs.Ytfkbcldeohblpaa.PLayoutApart
open Go.RowKit Go.Proofs.YtfkbcldeohblpaaW.PrintWords Go.Proofs.YtfkbcldeohblpaaW.PrintLast Go.Proofs.YtfkbcldeohblpaaW.PrintMore
attribute [local go_sem] max2_int min2_int max_two min_two max_three min_three max_four min_four
set_option linter.unusedVariables false
set_option linter.unusedSimpArgs false

/-! ### oakumlaw10_LayoutApart: function 7 -/
mutual
def oakumlaw10_LayoutApart.j0 : Nat → Int → Int → Bool → Int → Int → Int → Int → Int → Int → Int → Int → Option (Bool)
 | 0, _, _, _, _, _, _, _, _, _, _, _ => none
 | k + 1, x7, x8, x39, x170000, x170001, x170002, x171000, x171001, x177000, x177001, x177002 => if x39 = true then ((oakumlaw10_alive.f k).bind fun t177 => (some t177)) else ((layout_Layout_Slot.f x177000 x177001 x177002 0).bind fun bt178 => ((layout_Layout_Slot.f x177000 x177001 x177002 15).bind fun bt180 => ((layout_Layout_Origin.f x177000 x177001 x177002).bind fun bt182 => ((layout_Layout_Stores.f x177000 x177001 x177002).bind fun bt185 => (if bt178.1 = 1 then (if bt180.1 = (wrap64 (bt182.1 - 1)) then (if (wrap64 (bt182.1 + bt182.2)) = bt185.1 then (if (wrap64 (bt185.1 + bt185.2)) = x170000 then (oakumlaw10_LayoutApart.j1 k x7 x8 (decide (bt185.2 < 0)) x171000 x171001 x177000 x177001 x177002) else (oakumlaw10_LayoutApart.j1 k x7 x8 true x171000 x171001 x177000 x177001 x177002)) else (oakumlaw10_LayoutApart.j1 k x7 x8 true x171000 x171001 x177000 x177001 x177002)) else (oakumlaw10_LayoutApart.j1 k x7 x8 true x171000 x171001 x177000 x177001 x177002)) else (oakumlaw10_LayoutApart.j1 k x7 x8 true x171000 x171001 x177000 x177001 x177002))))))
def oakumlaw10_LayoutApart.j1 : Nat → Int → Int → Bool → Int → Int → Int → Int → Int → Option (Bool)
 | 0, _, _, _, _, _, _, _, _ => none
 | k + 1, x7, x8, x88, x171000, x171001, x177000, x177001, x177002 => if x88 = true then (some false) else ((layout_Layout_Page.f k x177000 x177001 x177002 x171000 x171001 x7).bind fun bt188 => ((layout_Layout_Chunk.f k x177000 x177001 x177002 x171000 x171001 x7).bind fun bt190 => ((layout_Layout_Chunk.f k x177000 x177001 x177002 x171000 x171001 x8).bind fun bt194 => (if bt188.2 = 0 then (if bt188.1 ≤ x171000 then (oakumlaw10_LayoutApart.j2 k x7 x8 bt190.2.2 bt194.2.2 true x171000 x171001 bt190.1 bt190.2.1 bt194.1 bt194.2.1) else (if bt188.1 ≥ (wrap64 (x171000 + x171001)) then (oakumlaw10_LayoutApart.j2 k x7 x8 bt190.2.2 bt194.2.2 true x171000 x171001 bt190.1 bt190.2.1 bt194.1 bt194.2.1) else (if bt190.2.2 = 0 then ((oakumlaw10_apart.f bt188.1 1 bt190.1 bt190.2.1).bind fun t199 => (if t199 = true then (if bt194.2.2 = 0 then ((oakumlaw10_apart.f bt188.1 1 bt194.1 bt194.2.1).bind fun t200 => (oakumlaw10_LayoutApart.j2 k x7 x8 bt190.2.2 bt194.2.2 (!t200) x171000 x171001 bt190.1 bt190.2.1 bt194.1 bt194.2.1)) else (oakumlaw10_LayoutApart.j2 k x7 x8 bt190.2.2 bt194.2.2 false x171000 x171001 bt190.1 bt190.2.1 bt194.1 bt194.2.1)) else (oakumlaw10_LayoutApart.j2 k x7 x8 bt190.2.2 bt194.2.2 true x171000 x171001 bt190.1 bt190.2.1 bt194.1 bt194.2.1))) else (if bt194.2.2 = 0 then ((oakumlaw10_apart.f bt188.1 1 bt194.1 bt194.2.1).bind fun t201 => (oakumlaw10_LayoutApart.j2 k x7 x8 bt190.2.2 bt194.2.2 (!t201) x171000 x171001 bt190.1 bt190.2.1 bt194.1 bt194.2.1)) else (oakumlaw10_LayoutApart.j2 k x7 x8 bt190.2.2 bt194.2.2 false x171000 x171001 bt190.1 bt190.2.1 bt194.1 bt194.2.1))))) else (oakumlaw10_LayoutApart.j2 k x7 x8 bt190.2.2 bt194.2.2 false x171000 x171001 bt190.1 bt190.2.1 bt194.1 bt194.2.1)))))
def oakumlaw10_LayoutApart.j2 : Nat → Int → Int → Int → Int → Bool → Int → Int → Int → Int → Int → Int → Option (Bool)
 | 0, _, _, _, _, _, _, _, _, _, _, _ => none
 | k + 1, x7, x8, x20, x22, x148, x171000, x171001, x194000, x194001, x198000, x198001 => if x148 = true then (some false) else (if x20 = 0 then (if x194000 ≤ x171000 then (oakumlaw10_LayoutApart.j3 k x7 x8 x20 x22 true x194000 x194001 x198000 x198001) else (oakumlaw10_LayoutApart.j3 k x7 x8 x20 x22 (decide ((wrap64 (x194000 + x194001)) > (wrap64 (x171000 + x171001)))) x194000 x194001 x198000 x198001)) else (oakumlaw10_LayoutApart.j3 k x7 x8 x20 x22 false x194000 x194001 x198000 x198001))
def oakumlaw10_LayoutApart.j3 : Nat → Int → Int → Int → Int → Bool → Int → Int → Int → Int → Option (Bool)
 | 0, _, _, _, _, _, _, _, _, _ => none
 | k + 1, x7, x8, x20, x22, x170, x194000, x194001, x198000, x198001 => if x170 = true then (some false) else ((oakumlaw10_alive.f k).bind fun t202 => (if t202 = true then (if x20 = 0 then (if x22 = 0 then (if x7 = x8 then (some true) else ((oakumlaw10_apart.f x194000 x194001 x198000 x198001).bind fun t203 => (some t203))) else (some true)) else (some true)) else (some false)))
end
def oakumlaw10_LayoutApart.f (k : Nat) (a0_0 : Int) (a0_1 : Int) (a0_2 : Int) (a1_0 : Int) (a1_1 : Int) (a2_0 : Int) (a2_1 : Int) : Option (Bool) := (layout_Of.f a0_0 a0_1 a0_2).bind fun bt172 => (if bt172.2.2.2 = 0 then (oakumlaw10_LayoutApart.j0 k a2_0 a2_1 (decide (a1_1 > 4000)) a0_0 a0_1 a0_2 a1_0 a1_1 bt172.1 bt172.2.1 bt172.2.2.1) else (oakumlaw10_LayoutApart.j0 k a2_0 a2_1 true a0_0 a0_1 a0_2 a1_0 a1_1 bt172.1 bt172.2.1 bt172.2.2.1))
theorem oakumlaw10_LayoutApart.mono_l : ∀ k, (∀ y0 y1 y2 y3 y4 y5 y6 y7 y8 y9 y10, LeO (oakumlaw10_LayoutApart.j0 k y0 y1 y2 y3 y4 y5 y6 y7 y8 y9 y10) (oakumlaw10_LayoutApart.j0 (k + 1) y0 y1 y2 y3 y4 y5 y6 y7 y8 y9 y10)) ∧ (∀ y0 y1 y2 y3 y4 y5 y6 y7, LeO (oakumlaw10_LayoutApart.j1 k y0 y1 y2 y3 y4 y5 y6 y7) (oakumlaw10_LayoutApart.j1 (k + 1) y0 y1 y2 y3 y4 y5 y6 y7)) ∧ (∀ y0 y1 y2 y3 y4 y5 y6 y7 y8 y9 y10, LeO (oakumlaw10_LayoutApart.j2 k y0 y1 y2 y3 y4 y5 y6 y7 y8 y9 y10) (oakumlaw10_LayoutApart.j2 (k + 1) y0 y1 y2 y3 y4 y5 y6 y7 y8 y9 y10)) ∧ (∀ y0 y1 y2 y3 y4 y5 y6 y7 y8, LeO (oakumlaw10_LayoutApart.j3 k y0 y1 y2 y3 y4 y5 y6 y7 y8) (oakumlaw10_LayoutApart.j3 (k + 1) y0 y1 y2 y3 y4 y5 y6 y7 y8))
 | 0 => ⟨fun _ _ _ _ _ _ _ _ _ _ _ r h => by simp [oakumlaw10_LayoutApart.j0] at h, fun _ _ _ _ _ _ _ _ r h => by simp [oakumlaw10_LayoutApart.j1] at h, fun _ _ _ _ _ _ _ _ _ _ _ r h => by simp [oakumlaw10_LayoutApart.j2] at h, fun _ _ _ _ _ _ _ _ _ r h => by simp [oakumlaw10_LayoutApart.j3] at h⟩
 | k + 1 => by
  obtain ⟨ih0, ih1, ih2, ih3⟩ := oakumlaw10_LayoutApart.mono_l k
  refine ⟨?_, ?_, ?_, ?_⟩
  ·intro y0 y1 y2 y3 y4 y5 y6 y7 y8 y9 y10
   unfold oakumlaw10_LayoutApart.j0
   repeat' first
   | (with_reducible exact ih0 _ _ _ _ _ _ _ _ _ _ _)
   | (with_reducible exact ih1 _ _ _ _ _ _ _ _)
   | (with_reducible exact ih2 _ _ _ _ _ _ _ _ _ _ _)
   | (with_reducible exact ih3 _ _ _ _ _ _ _ _ _)
   | (with_reducible exact layout_Layout_Chunk.mono _ _ _ _ _ _ _)
   | (with_reducible exact layout_Layout_Page.mono _ _ _ _ _ _ _)
   | (with_reducible exact oakumlaw10_alive.mono _)
   | (with_reducible exact LeO.refl _)
   | (with_reducible exact LeO.none _)
   | (with_reducible refine LeO.ite ?_ ?_)
   | (with_reducible refine LeO.bind ?_ (fun _ => ?_))
   | exact ih0 _ _ _ _ _ _ _ _ _ _ _
   | exact ih1 _ _ _ _ _ _ _ _
   | exact ih2 _ _ _ _ _ _ _ _ _ _ _
   | exact ih3 _ _ _ _ _ _ _ _ _
   | exact layout_Layout_Chunk.mono _ _ _ _ _ _ _
   | exact layout_Layout_Page.mono _ _ _ _ _ _ _
   | exact oakumlaw10_alive.mono _
   | exact LeO.none _
   | refine LeO.ite ?_ ?_
   | refine LeO.bind ?_ (fun _ => ?_)
  ·intro y0 y1 y2 y3 y4 y5 y6 y7
   unfold oakumlaw10_LayoutApart.j1
   repeat' first
   | (with_reducible exact ih0 _ _ _ _ _ _ _ _ _ _ _)
   | (with_reducible exact ih1 _ _ _ _ _ _ _ _)
   | (with_reducible exact ih2 _ _ _ _ _ _ _ _ _ _ _)
   | (with_reducible exact ih3 _ _ _ _ _ _ _ _ _)
   | (with_reducible exact layout_Layout_Chunk.mono _ _ _ _ _ _ _)
   | (with_reducible exact layout_Layout_Page.mono _ _ _ _ _ _ _)
   | (with_reducible exact oakumlaw10_alive.mono _)
   | (with_reducible exact LeO.refl _)
   | (with_reducible exact LeO.none _)
   | (with_reducible refine LeO.ite ?_ ?_)
   | (with_reducible refine LeO.bind ?_ (fun _ => ?_))
   | exact ih0 _ _ _ _ _ _ _ _ _ _ _
   | exact ih1 _ _ _ _ _ _ _ _
   | exact ih2 _ _ _ _ _ _ _ _ _ _ _
   | exact ih3 _ _ _ _ _ _ _ _ _
   | exact layout_Layout_Chunk.mono _ _ _ _ _ _ _
   | exact layout_Layout_Page.mono _ _ _ _ _ _ _
   | exact oakumlaw10_alive.mono _
   | exact LeO.none _
   | refine LeO.ite ?_ ?_
   | refine LeO.bind ?_ (fun _ => ?_)
  ·intro y0 y1 y2 y3 y4 y5 y6 y7 y8 y9 y10
   unfold oakumlaw10_LayoutApart.j2
   repeat' first
   | (with_reducible exact ih0 _ _ _ _ _ _ _ _ _ _ _)
   | (with_reducible exact ih1 _ _ _ _ _ _ _ _)
   | (with_reducible exact ih2 _ _ _ _ _ _ _ _ _ _ _)
   | (with_reducible exact ih3 _ _ _ _ _ _ _ _ _)
   | (with_reducible exact layout_Layout_Chunk.mono _ _ _ _ _ _ _)
   | (with_reducible exact layout_Layout_Page.mono _ _ _ _ _ _ _)
   | (with_reducible exact oakumlaw10_alive.mono _)
   | (with_reducible exact LeO.refl _)
   | (with_reducible exact LeO.none _)
   | (with_reducible refine LeO.ite ?_ ?_)
   | (with_reducible refine LeO.bind ?_ (fun _ => ?_))
   | exact ih0 _ _ _ _ _ _ _ _ _ _ _
   | exact ih1 _ _ _ _ _ _ _ _
   | exact ih2 _ _ _ _ _ _ _ _ _ _ _
   | exact ih3 _ _ _ _ _ _ _ _ _
   | exact layout_Layout_Chunk.mono _ _ _ _ _ _ _
   | exact layout_Layout_Page.mono _ _ _ _ _ _ _
   | exact oakumlaw10_alive.mono _
   | exact LeO.none _
   | refine LeO.ite ?_ ?_
   | refine LeO.bind ?_ (fun _ => ?_)
  ·intro y0 y1 y2 y3 y4 y5 y6 y7 y8
   unfold oakumlaw10_LayoutApart.j3
   repeat' first
   | (with_reducible exact ih0 _ _ _ _ _ _ _ _ _ _ _)
   | (with_reducible exact ih1 _ _ _ _ _ _ _ _)
   | (with_reducible exact ih2 _ _ _ _ _ _ _ _ _ _ _)
   | (with_reducible exact ih3 _ _ _ _ _ _ _ _ _)
   | (with_reducible exact layout_Layout_Chunk.mono _ _ _ _ _ _ _)
   | (with_reducible exact layout_Layout_Page.mono _ _ _ _ _ _ _)
   | (with_reducible exact oakumlaw10_alive.mono _)
   | (with_reducible exact LeO.refl _)
   | (with_reducible exact LeO.none _)
   | (with_reducible refine LeO.ite ?_ ?_)
   | (with_reducible refine LeO.bind ?_ (fun _ => ?_))
   | exact ih0 _ _ _ _ _ _ _ _ _ _ _
   | exact ih1 _ _ _ _ _ _ _ _
   | exact ih2 _ _ _ _ _ _ _ _ _ _ _
   | exact ih3 _ _ _ _ _ _ _ _ _
   | exact layout_Layout_Chunk.mono _ _ _ _ _ _ _
   | exact layout_Layout_Page.mono _ _ _ _ _ _ _
   | exact oakumlaw10_alive.mono _
   | exact LeO.none _
   | refine LeO.ite ?_ ?_
   | refine LeO.bind ?_ (fun _ => ?_)
theorem oakumlaw10_LayoutApart.mono : ∀ a0 a1 a2 a3 a4 a5 a6 k, LeO (oakumlaw10_LayoutApart.f k a0 a1 a2 a3 a4 a5 a6) (oakumlaw10_LayoutApart.f (k + 1) a0 a1 a2 a3 a4 a5 a6) := by
 intro a0 a1 a2 a3 a4 a5 a6 k
 obtain ⟨ih0, ih1, ih2, ih3⟩ := oakumlaw10_LayoutApart.mono_l k
 unfold oakumlaw10_LayoutApart.f
 repeat' first
   | (with_reducible exact ih0 _ _ _ _ _ _ _ _ _ _ _)
   | (with_reducible exact ih1 _ _ _ _ _ _ _ _)
   | (with_reducible exact ih2 _ _ _ _ _ _ _ _ _ _ _)
   | (with_reducible exact ih3 _ _ _ _ _ _ _ _ _)
   | (with_reducible exact layout_Layout_Chunk.mono _ _ _ _ _ _ _)
   | (with_reducible exact layout_Layout_Page.mono _ _ _ _ _ _ _)
   | (with_reducible exact oakumlaw10_alive.mono _)
   | (with_reducible exact LeO.refl _)
   | (with_reducible exact LeO.none _)
   | (with_reducible refine LeO.ite ?_ ?_)
   | (with_reducible refine LeO.bind ?_ (fun _ => ?_))
   | exact ih0 _ _ _ _ _ _ _ _ _ _ _
   | exact ih1 _ _ _ _ _ _ _ _
   | exact ih2 _ _ _ _ _ _ _ _ _ _ _
   | exact ih3 _ _ _ _ _ _ _ _ _
   | exact layout_Layout_Chunk.mono _ _ _ _ _ _ _
   | exact layout_Layout_Page.mono _ _ _ _ _ _ _
   | exact oakumlaw10_alive.mono _
   | exact LeO.none _
   | refine LeO.ite ?_ ?_
   | refine LeO.bind ?_ (fun _ => ?_)

end Go.Proofs.Ytfkbcldeohblpaa.PLayoutApart
