/- (geom.Geom).Split (function 17): the pieces of any sectors, or the error, at every geometry and numbers. -/
import Derived.Maps.AppendAt
import Derived.Test.YtfkbcldeohblpaaGPieces
namespace Go.Proofs.Ytfkbcldeohblpaa
open Go.RowKit Go.Shelf Go.Proofs.YtfkbcldeohblpaaW.PrintWords

set_option linter.unusedVariables false
attribute [local go_sem] Oper.semAt_some

/-- The cells of pieces, one behind the other. -/
def pieceCells : List PGeomSpans.S43 → List Value
  | [] => []
  | p :: ps => .int .i64 p.f0 :: .int .i64 p.f1 :: .int .i64 p.f2 :: pieceCells ps

theorem pieceCells_append (a b : List PGeomSpans.S43) : pieceCells (a ++ b) = pieceCells a ++ pieceCells b := by
  induction a with
  | nil => rfl
  | cons x xs ih => simp [pieceCells, ih]

theorem pieceCells_length (a : List PGeomSpans.S43) : (pieceCells a).length = a.length * 3 := by
  induction a with
  | nil => rfl
  | cons x xs ih => simp only [pieceCells, List.length_cons, ih]; omega

set_option maxHeartbeats 1000000 in
/-- (geom.Geom).pieces (function 52): the three variables are boxed; the function value captures the boxes. -/
theorem pieces_calls (o c at_ n : Int) (w : World) :
    Calls Try.prog 52 #[.agg #[.int .i64 o, .int .i64 c], .int .i64 at_, .int .i64 n] w fun e w' =>
      e = .returned (.func (.func 77) #[] #[.pointer (some ⟨w.heap.size + 2, 0, none⟩), .pointer (some ⟨w.heap.size + 1, 0, none⟩), .pointer (some ⟨w.heap.size, 0, none⟩)]) ∧
      ((w.alloc (.cells #[.int .i64 o, .int .i64 c] 23)).alloc (.cells #[.int .i64 at_] 3)).alloc (.cells #[.int .i64 n] 3) = w' := by
  have hu23 := Try.underlying23
  go_enter Try.func52, Try.ntmps52
  go_wp2
  go_ret
  exact ⟨rfl, rfl⟩

theorem info43 : (Try.prog.info? 43).map (fun i => (i.zero, i.size, i.bytes)) = some (some (.agg #[.int .i64 0, .int .i64 0, .int .i64 0]), 3, 24) := by kernel_rfl

/-- What holds between two rounds: the box of 'out' holds a row of the pieces that have come; the loop's own two blocks; what lay below stays. -/
structure SplitInv (w w0 : World) (bo : Nat) (rec : Loop) (pre : List PGeomSpans.S43) (W : World) : Prop where
  row : ∃ v, Boxed W bo 31 v ∧ W.ownsRow w0.heap.size 43 3 v pre.length (pieceCells pre)
  loop : W.heap[w0.heap.size + 1]? = some (.loop rec)
  def_ : W.heap[w0.heap.size]? = some (.deferred (some []))
  below : Below w.heap.size w W

theorem SplitInv.kept {w w0 : World} {bo : Nat} {rec : Loop} {pre : List PGeomSpans.S43} {A B : World} {row : Option Nat} (h : SplitInv w w0 bo rec pre A) (hg : A.grownBy B row)
    (hrow : ∀ r, row = some r → w.heap.size ≤ r ∧ r ≠ bo ∧ r < w0.heap.size) : SplitInv w w0 bo rec pre B := by
  obtain ⟨⟨v, hv, hr⟩, hl, hd, hb⟩ := h
  refine ⟨⟨v, hv.kept hg (fun e => (hrow bo e.symm).2.1 rfl), hr.kept hg ?_⟩, ?_, ?_, ?_⟩
  · rcases hr.2 with ⟨rfl, _⟩ | ⟨g, cap, cur, rfl, hgb, _, _⟩
    · exact .inl rfl
    · refine .inr fun e' => ?_
      have := (hrow g (by simpa [Value.ownBlock] using e'.symm)).2.2
      omega
  · exact (hg.block _ (Array.getElem?_eq_some_iff.1 hl).1 (fun e => by have := (hrow _ e.symm).2.2; omega)).trans hl
  · exact (hg.block _ (Array.getElem?_eq_some_iff.1 hd).1 (fun e => by have := (hrow _ e.symm).2.2; omega)).trans hd
  · exact hb.grown hg hb.size (fun k e => (hrow k e).1)

theorem cells3_new (W : World) (a b c : Value) (t : TypeId) : ∀ j u, [a, b, c][j]? = some u → (W.alloc (.cells #[a, b, c] t)).cell? ((⟨W.heap.size, 0, none⟩ : Addr).add j) = some u := by
  intro j u h
  have e : (W.alloc (.cells #[a, b, c] t)).cell? ((⟨W.heap.size, 0, none⟩ : Addr).add j) = #[a, b, c][j]? := by
    have h1 := World.cell?_alloc_new W #[a, b, c] t j
    unfold Addr.add
    split
    · rename_i hj; subst hj; exact h1
    · simp only [Nat.zero_add]; exact h1
  rw [e]
  simpa using h

theorem one3 (a b c : Int) : ∀ u ∈ [Value.int .i64 a, .int .i64 b, .int .i64 c], u.oneCell' = true := by
  intro u hu
  simp at hu
  rcases hu with rfl | rfl | rfl <;> rfl

/-- A range over a closure, outside of rounds: its record and the block for deferred calls are laid, the closure is called with yield. -/
theorem range_direct {n : Nat} {P : Program} {g : Operand} {ps : Array Tmp} {assign body : Code} {Q : Exit → Act → World → Prop} {a : Act} {w0 : World} {gf : Nat} {lb : Array Value}
    (hg : a.eval g = .func (.func gf) #[] lb) (eg : ∀ args w, (callFunc gf args).run P w = .ok (.enter gf args) w)
    (h : ∀ (fn : FuncId) (rec : LoopState → Option Code → Loop), rec = (fun st pe => { state := st, pending := pe, fn, tmps := a.tmps, params := ps, assign, body, defers := w0.heap.size }) →
      CallsIn Fence.wide (n - 1) P gf (#[.func (.yield (w0.heap.size + 1)) #[] #[]] ++ lb) ((w0.alloc (.deferred (some []))).alloc (.loop (rec .ready none)))
        (rangePost Fence.wide n P (w0.heap.size + 1) Q { a with defers := { target := .collected w0.heap.size, args := #[] } :: a.defers })) :
    (Code.rangeFunc g ps assign body).wpIn Fence.wide n P Q a w0 := by
  refine wpIn_rangeFunc ?_
  intro fn hfn
  have hc := h fn _ rfl
  obtain ⟨W1, hW1⟩ : ∃ W1, (w0.alloc (.deferred (some []))).alloc (.loop { state := .ready, pending := none, fn := fn, tmps := a.tmps, params := ps, assign := assign, body := body, defers := w0.heap.size }) = W1 := ⟨_, rfl⟩
  rw [hW1] at hc
  refine ⟨w0.heap.size + 1, [{ target := .collected w0.heap.size, args := #[] }], W1, { target := .fn (.func gf) lb, args := #[.func (.yield (w0.heap.size + 1)) #[] #[]] }, W1, gf,
    #[.func (.yield (w0.heap.size + 1)) #[] #[]] ++ lb, W1, ?_, ?_, fun _ _ => trivial, ?_, ?_, ?_⟩
  · rw [← hW1]; exact run_enterLoop_outer _ _ _ _ _
  · simp only [resolve, hg]
    simp [go_sem]
  · simp [invoke, go_sem, eg]
  · intro h; simp [Fence.wide] at h
  · exact hc

set_option maxRecDepth 100000 in
set_option maxHeartbeats 400000 in
theorem split_ok (o c at_ n : Nat) (ho1 : 1 ≤ o) (ho2 : o ≤ 1048576) (hc1 : 1 ≤ c) (hc2 : c ≤ 128) (hat : at_ + n ≤ o) (w : World) :
    CallsIn Fence.wide 4 Try.prog 17 #[.agg #[.int .i64 o, .int .i64 c], .int .i64 at_, .int .i64 n] w fun e w' =>
      ∃ v, e = .returned (.tuple #[v, .int .i64 0]) ∧ w'.ownsRow w.heap.size 43 3 v (piecesF c n at_ n).length (pieceCells (piecesF c n at_ n)) ∧ Below w.heap.size w w' := by
  have hu23 := Try.underlying23
  have hu43 := Try.underlying43
  obtain ⟨i0, hi, hz0, hz1, hz2⟩ := info_parts info43
  have HR := Lib.hid (right_yes o c (by omega) (by omega) (by omega) (by omega))
  have hd1 : decide ((at_ : Int) < 0) = false := decide_eq_false (by omega)
  have hd2 : decide ((n : Int) < 0) = false := decide_eq_false (by omega)
  have hd3 : decide ((o : Int) < (at_ : Int)) = false := decide_eq_false (by omega)
  have hd3' : decide (o < at_) = false := decide_eq_false (by omega)
  have hd4 : decide ((o : Int) - (at_ : Int) < (n : Int)) = false := decide_eq_false (by omega)
  refine callsIn_of_wp_marks Try.func17 rfl trivial ?_ rfl
  simp only [Try.ntmps17, List.size_toArray, List.length_cons, List.length_nil, Nat.reduceAdd, Nat.reduceSub, Array.replicate_succ, Array.replicate_zero, List.push_toArray, List.append_toArray, List.nil_append, List.cons_append]
  gi_wp2
  refine ⟨trivial, (callsIn_wide.2 (PGeomSpans.geom_Geom_Right.calls o c _ _ HR.out)).mono ?_⟩
  rintro e w1 ⟨rfl, hb1⟩
  have hzz := hb1.size
  simp only [World.size_alloc] at hzz
  have g0 : w1.cell? ⟨w.heap.size, 0, none⟩ = some (.int .i64 o) := by
    rw [hb1.cell (p := ⟨w.heap.size, 0, none⟩) (by simp)]; go_simp
  have g1 : w1.cell? ⟨w.heap.size, 1, none⟩ = some (.int .i64 c) := by
    rw [hb1.cell (p := ⟨w.heap.size, 1, none⟩) (by simp)]; go_simp
  have hB1 : Below w.heap.size w w1 := ((Below.refl _ w).alloc (Nat.le_refl _) _).trans (hb1.mono (by simp))
  clear hb1
  have hlt1 : w.heap.size < w1.heap.size := by omega
  gi_wp2
  refine ⟨trivial, (callsIn_wide.2 (pieces_calls o c at_ n _)).mono ?_⟩
  rintro e w2 ⟨rfl, rfl⟩
  gi_wp2
  obtain ⟨w0, hw0⟩ : ∃ w0, (((w1.alloc (.cells #[.slice none 0 0] 31)).alloc (.cells #[.int .i64 o, .int .i64 c] 23)).alloc (.cells #[.int .i64 at_] 3)).alloc (.cells #[.int .i64 n] 3) = w0 := ⟨_, rfl⟩
  have hz0' : w0.heap.size = w1.heap.size + 4 := by rw [← hw0]; simp
  have bO : Boxed w0 w1.heap.size 31 (.slice none 0 0) := by
    rw [← hw0]; exact (((Boxed.new w1 31 _).alloc _).alloc _).alloc _
  have bG : w0.heap[w1.heap.size + 1]? = some (.cells #[.int .i64 o, .int .i64 c] 23 (0, 0)) := by
    rw [← hw0]
    refine (Below.heap_alloc _ _ _ (by simp)).trans ((Below.heap_alloc _ _ _ (by simp)).trans ?_)
    have := World.alloc_heap_new (w1.alloc (.cells #[.slice none 0 0] 31)) (.cells #[.int .i64 o, .int .i64 c] 23)
    rwa [World.size_alloc] at this
  have bA : Boxed w0 (w1.heap.size + 1 + 1) 3 (.int .i64 at_) := by
    rw [← hw0]
    have := Boxed.new ((w1.alloc (.cells #[.slice none 0 0] 31)).alloc (.cells #[.int .i64 o, .int .i64 c] 23)) 3 (.int .i64 at_)
    simp only [World.size_alloc] at this
    exact this.alloc _
  have bN : Boxed w0 (w1.heap.size + 1 + 2) 3 (.int .i64 n) := by
    rw [← hw0]
    have := Boxed.new (((w1.alloc (.cells #[.slice none 0 0] 31)).alloc (.cells #[.int .i64 o, .int .i64 c] 23)).alloc (.cells #[.int .i64 at_] 3)) 3 (.int .i64 n)
    simp only [World.size_alloc] at this
    exact this
  have hB0 : Below w.heap.size w w0 := by
    rw [← hw0]
    exact (((hB1.alloc (by omega) _).alloc (by simp; omega) _).alloc (by simp; omega) _).alloc (by simp; omega) _
  rw [hw0]
  clear hw0
  have hza : w0.heap.size ≤ w1.heap.size + 4 := by omega
  have hzb : w1.heap.size + 4 ≤ w0.heap.size := by omega
  clear hz0'
  refine range_direct (gf := 77) (lb := #[.pointer (some ⟨w1.heap.size + 1 + 2, 0, none⟩), .pointer (some ⟨w1.heap.size + 1 + 1, 0, none⟩), .pointer (some ⟨w1.heap.size + 1, 0, none⟩)]) rfl (enters_of Try.func77 (by kernel_rfl) rfl) ?_
  intro fn rec hrec
  have hBW : Below w0.heap.size w0 ((w0.alloc (.deferred (some []))).alloc (.loop (rec .ready none))) := ((Below.refl _ w0).alloc (Nat.le_refl _) _).alloc (by simp) _
  refine (pieces1_in (4 - 1) (by omega) (w0.heap.size + 1) (w1.heap.size + 1) (w1.heap.size + 1 + 1) (w1.heap.size + 1 + 2) n o c hc1 hc2 (SplitInv w w0 w1.heap.size (rec .ready none)) ?hJ (by omega) (by omega) (by omega) ?hY _ at_ n (by omega) (Nat.le_refl _)
    ((hBW.block _ (by omega)).trans bG) ((hBW.block _ (by omega)).trans bA) ((hBW.block _ (by omega)).trans bN) ?h0).mono ?_
  case hJ => exact fun s A B row hs hg hr => hs.kept hg (fun r e => by rcases hr r e with h | h <;> omega)
  case h0 => 
    refine ⟨⟨_, (hBW.block _ (by omega)).trans bO, World.ownsRow_nil _ _ _ _⟩, ?_, ?_, hB0.trans (hBW.mono (by omega))⟩
    · have := World.alloc_heap_new (w0.alloc (.deferred (some []))) (.loop (rec .ready none)); rwa [World.size_alloc] at this
    · exact (Below.heap_alloc _ _ _ (by simp)).trans (World.alloc_heap_new w0 _)
  case hY =>
    intro pre x W0 W hs hg hlen
    obtain ⟨⟨v, hv0, hrow0⟩, hl0, hd0, hb0⟩ := hs
    have hgv : ∀ g, v.ownBlock = some g → g < W0.heap.size := by
      intro g e
      rcases hrow0.2 with ⟨rfl, _⟩ | ⟨g', cap, cur, rfl, _, hgb, _⟩
      · simp [Value.ownBlock] at e
      · obtain rfl : g' = g := by simpa [Value.ownBlock] using e
        exact (Array.getElem?_eq_some_iff.1 hgb).1
    have hv := hv0.kept hg (by simp)
    have hrow := hrow0.kept hg (by cases v.ownBlock <;> simp)
    have hl := (hg.block _ (Array.getElem?_eq_some_iff.1 hl0).1 (by simp)).trans hl0
    have hd := (hg.block _ (Array.getElem?_eq_some_iff.1 hd0).1 (by simp)).trans hd0
    have hb := hb0.grown hg hb0.size (fun k e => by cases e)
    unfold pieceV
    have hy := run_yield (P := Try.prog) (args := #[.agg #[.int .i64 x.f0, .int .i64 x.f1, .int .i64 x.f2]]) hl (by rw [hrec]; rfl)
    rw [hrec] at hy
    refine ⟨fn, _, _, _, hy, roundIn_of_wpIn trivial ?_⟩
    clear hy
    gi_wp2
    have hLW : w0.heap.size + 1 < W.heap.size := (Array.getElem?_eq_some_iff.1 hl).1
    have hl1 := (Below.heap_alloc W (.cells #[.int .i64 x.f0, .int .i64 x.f1, .int .i64 x.f2] 43) (w0.heap.size + 1) hLW).trans hl
    refine ⟨_, run_beginRound hl1 (by rw [hrec]), ?_⟩
    obtain ⟨Wa, hWa⟩ : ∃ Wa, W.alloc (.cells #[.int .i64 x.f0, .int .i64 x.f1, .int .i64 x.f2] 43) = Wa := ⟨_, rfl⟩
    obtain ⟨Wb, hWb⟩ : ∃ Wb, Wa.putObj (w0.heap.size + 1) (.loop { rec .ready none with state := .busy }) = Wb := ⟨_, rfl⟩
    rw [hWa] at hl1
    rw [hWa, hWb]
    have gab : W.grownBy Wa none := by rw [← hWa]; exact World.grownBy_alloc W _ _
    have gbb : Wa.grownBy Wb (some (w0.heap.size + 1)) := by rw [← hWb]; exact grownBy_putObj' Wa _ _
    have za : Wa.heap.size = W.heap.size + 1 := by rw [← hWa]; simp
    have zb1 : Wb.heap.size ≤ W.heap.size + 1 := by rw [← hWb]; simp [za]
    have zb2 : W.heap.size + 1 ≤ Wb.heap.size := by rw [← hWb]; simp [za]
    have lWb : Wb.heap[w0.heap.size + 1]? = some (.loop { rec .ready none with state := .busy }) := by rw [← hWb]; exact World.putObj_heap_same (by omega)
    have pWb : Wb.heap[W.heap.size]? = some (.cells #[.int .i64 x.f0, .int .i64 x.f1, .int .i64 x.f2] 43 (0, 0)) :=
      (gbb.block _ (by omega) (fun e => by have := Option.some.inj e; omega)).trans (by rw [← hWa]; exact World.alloc_heap_new W _)
    have bWb : ∀ k, k < W.heap.size → k ≠ w0.heap.size + 1 → Wb.heap[k]? = W.heap[k]? := fun k h1 h2 => (gbb.block k (by omega) (fun e => h2 (Option.some.inj e))).trans (gab.block k h1 (by simp))
    have dWb := (bWb w0.heap.size (by omega) (by omega)).trans hd
    have vWb : Boxed Wb w1.heap.size 31 v := (bWb _ (by omega) (by omega)).trans hv
    have rWb : Wb.ownsRow w0.heap.size 43 3 v pre.length (pieceCells pre) := by
      refine (hrow.kept gab (by cases v.ownBlock <;> simp)).kept gbb ?_
      rcases hrow.2 with ⟨rfl, _⟩ | ⟨g, cap, cur, rfl, _, hgb, _⟩
      · exact .inl rfl
      · refine .inr fun e' => ?_
        obtain rfl : g = w0.heap.size + 1 := by simpa [Value.ownBlock] using e'
        rw [hl] at hgb; cases hgb
    have hbb : Below w.heap.size w Wb := (hb.grown gab hb.size (fun k e => by cases e)).grown gbb (by have := hb.size; omega) (fun k e => by cases e; omega)
    clear hWa hWb
    have cv := vWb.cell
    have p0 : Wb.cell? ⟨W.heap.size, 0, none⟩ = some (.int .i64 x.f0) := by simp [World.cell?, pWb]
    have p1 : Wb.cell? ⟨W.heap.size, 1, none⟩ = some (.int .i64 x.f1) := by simp [World.cell?, pWb]
    have p2 : Wb.cell? ⟨W.heap.size, 2, none⟩ = some (.int .i64 x.f2) := by simp [World.cell?, pWb]
    have hn1 : pre.length + 1 ≤ 1048576 := by omega
    have hm47 : (pre.length + 1) * 24 ≤ 140737488355328 := by omega
    have hm0 : w0.heap.size ≤ (Wb.alloc (.cells #[.int .i64 x.f0, .int .i64 x.f1, .int .i64 x.f2] 43)).heap.size := by rw [World.size_alloc]; omega
    have hm63 : pre.length + 1 ≤ maxLen := by unfold maxLen; omega
    have HREC := Lib.hid hrec
    clear za gab gbb hl1 hrec
    gi_wp2_with (gi_at_builtin; refine wpListIn_append_own _ rfl _ _ 31 rfl w0.heap.size 43 i0 (.agg #[.int .i64 0, .int .i64 0, .int .i64 0]) 3 24 Try.underlying31 hi hz0 hz1 hz2 rfl (by decide) _ _ _ rfl (rWb.alloc _) ⟨Wb.heap.size, 0, none⟩ 1 1 [.int .i64 x.f0, .int .i64 x.f1, .int .i64 x.f2] rfl rfl (cells3_new _ _ _ _ _) (one3 _ _ _) hm63 hm47 hm0 ?_; intro v' w2 hown' hgrow _; obtain ⟨g', cap', rfl⟩ := ownsRow_succ hown'; have hv1 : Boxed w2 w1.heap.size 31 v := (vWb.alloc _).kept hgrow (vWb.not_row (by decide) rWb); have hc1' := hv1.cell; have hf1' := hv1.frozen)
    have hgr1 : ∀ k, k < Wb.heap.size → some k ≠ v.ownBlock → w2.heap[k]? = Wb.heap[k]? := fun k h1 h2 => (hgrow.block k (by rw [World.size_alloc]; omega) h2).trans (Below.heap_alloc _ _ _ h1)
    have hW2 : ∀ k, k < W.heap.size → k ≠ w0.heap.size + 1 → k ≠ w1.heap.size → some k ≠ v.ownBlock → (w2.setCell ⟨w1.heap.size, 0, none⟩ (.slice (some ⟨g', 0, none⟩) (pre.length + 1) cap')).heap[k]? = W.heap[k]? :=
      fun k h1 h2 h3 h4 => (Below.heap_setCell _ _ _ _ h3).trans ((hgr1 k (by omega) h4).trans (bWb k h1 h2))
    have hne2 : ∀ k, k < w0.heap.size + 2 → k < W.heap.size → w0.heap.size ≤ k → some k ≠ v.ownBlock := by
      intro k h1 h2 h3 e
      rcases hrow.2 with ⟨rfl, _⟩ | ⟨g, cap, cur, rfl, hgb0, hgb, _⟩
      · simp [Value.ownBlock] at e
      · obtain rfl : k = g := by simpa [Value.ownBlock] using e
        rcases (show k = w0.heap.size ∨ k = w0.heap.size + 1 by omega) with h | h
        · subst h; rw [hd] at hgb; cases hgb
        · subst h; rw [hl] at hgb; cases hgb
    have hne3 : ∀ k, k < w0.heap.size → some k ≠ v.ownBlock := by
      intro k h1 e
      rcases hrow.2 with ⟨rfl, _⟩ | ⟨g, cap, cur, rfl, hgb0, hgb, _⟩
      · simp [Value.ownBlock] at e
      · obtain rfl : k = g := by simpa [Value.ownBlock] using e
        omega
    have hlW2 : (w2.setCell ⟨w1.heap.size, 0, none⟩ (.slice (some ⟨g', 0, none⟩) (pre.length + 1) cap')).heap[w0.heap.size + 1]? = some (.loop { rec .ready none with state := .busy }) :=
      (Below.heap_setCell _ _ _ _ (by show w0.heap.size + 1 ≠ w1.heap.size; omega)).trans ((hgr1 _ (by omega) (hne2 _ (by omega) (by omega) (by omega))).trans lWb)
    have hsz2 : W.heap.size ≤ w2.heap.size := by have := hgrow.size; rw [World.size_alloc] at this; omega
    have hbx := hv1.set (.slice (some ⟨g', 0, none⟩) (pre.length + 1) cap')
    have hrw : (w2.setCell ⟨w1.heap.size, 0, none⟩ (.slice (some ⟨g', 0, none⟩) (pre.length + 1) cap')).ownsRow w0.heap.size 43 3 (.slice (some ⟨g', 0, none⟩) (pre.length + 1) cap') (pre.length + 1) (pieceCells pre ++ [.int .i64 x.f0, .int .i64 x.f1, .int .i64 x.f2]) :=
      hown'.kept (grownBy_setCell' w2 w1.heap.size _) (.inr (hv1.not_row (by decide) hown').symm)
    have hbl : Below w.heap.size w (w2.setCell ⟨w1.heap.size, 0, none⟩ (.slice (some ⟨g', 0, none⟩) (pre.length + 1) cap')) := by
      refine ((hbb.alloc hbb.size _).grown hgrow (by rw [World.size_alloc]; omega) (fun k e => ?_)).setCell (p := ⟨w1.heap.size, 0, none⟩) (by show w.heap.size ≤ w1.heap.size; omega) _
      apply Decidable.byContradiction
      intro hk
      exact hne3 k (by omega) e.symm
    have hdW2 : (w2.setCell ⟨w1.heap.size, 0, none⟩ (.slice (some ⟨g', 0, none⟩) (pre.length + 1) cap')).heap[w0.heap.size]? = some (.deferred (some [])) :=
      (hW2 _ (by omega) (by omega) (by omega) (hne2 _ (by omega) (by omega) (by omega))).trans hd
    have hgl := grownBy_putObj' (w2.setCell ⟨w1.heap.size, 0, none⟩ (.slice (some ⟨g', 0, none⟩) (pre.length + 1) cap')) (w0.heap.size + 1) (.loop (rec .ready none))
    have hlz := (Array.getElem?_eq_some_iff.1 hlW2).1
    have hend := run_endRound (P := Try.prog) none hlW2
    rw [show ({ ({ rec .ready none with state := .busy } : Loop) with state := if (none : Option Code).isNone then .ready else .done, pending := none } : Loop) = rec .ready none by rw [HREC.out]; rfl] at hend
    refine ⟨_, _, hend, rfl, ?_, ?_⟩
    · refine ⟨⟨_, hbx.kept hgl (fun e => by have := Option.some.inj e; omega), ?_⟩, World.putObj_heap_same hlz, (World.putObj_heap_other (by omega)).trans hdW2, hbl.grown hgl hbl.size (fun k e => by have := Option.some.inj e; omega)⟩
      rw [pieceCells_append, List.length_append]
      refine hrw.kept hgl (.inr fun e => ?_)
      rcases hrw.2 with ⟨h, _⟩ | ⟨g, cap, cur, h, _, hgb, _⟩
      · cases h
      · cases h
        have e2 : g' = w0.heap.size + 1 := Option.some.inj e
        rw [← e2] at hlW2
        have := hlW2.symm.trans hgb
        cases this
    · intro k hk
      have hL0 : w0.heap.size + 1 < W0.heap.size := (Array.getElem?_eq_some_iff.1 hl0).1
      have hkk : (k < w0.heap.size ∧ k ≠ w1.heap.size) ∨ (W0.heap.size ≤ k ∧ k < W.heap.size) := by
        rcases hk with h | h | h | h
        · exact .inl ⟨by omega, by omega⟩
        · exact .inl ⟨by omega, by omega⟩
        · exact .inl ⟨by omega, by omega⟩
        · exact .inr h
      have hko : some k ≠ v.ownBlock := by
        rcases hkk with h | h
        · exact hne3 k h.1
        · intro e; have := hgv k e.symm; omega
      exact (World.putObj_heap_other (by omega)).trans (hW2 k (by omega) (by omega) (by omega) hko)
  · rintro e W2 ⟨⟨vr, rfl⟩, hs⟩
    obtain ⟨⟨v, hv, hrow⟩, hl, hd, hb⟩ := hs
    have hend := run_endLoop (P := Try.prog) hl (by rw [hrec]; simp)
    have hpe : (rec .ready none).pending = none := by rw [hrec]
    rw [hpe] at hend
    obtain ⟨oo, hend'⟩ : ∃ oo, (Instr.endLoop (w0.heap.size + 1)).run Try.prog W2 = .ok none (W2.putObj (w0.heap.size + 1) oo) := ⟨_, hend⟩
    have hgl := grownBy_putObj' W2 (w0.heap.size + 1) oo
    obtain ⟨W3, hW3⟩ : ∃ W3, W2.putObj (w0.heap.size + 1) oo = W3 := ⟨_, rfl⟩
    rw [hW3] at hgl hend'
    refine ⟨none, W3, hend', ?_⟩
    dsimp only
    have hv3 : Boxed W3 w1.heap.size 31 v := hv.kept hgl (fun e => by have := Option.some.inj e; omega)
    have hr3 : W3.ownsRow w0.heap.size 43 3 v (piecesF c n at_ n).length (pieceCells (piecesF c n at_ n)) := by
      rw [← hW3]; exact ownsRow_putObj hrow _ hl rfl
    have hd3 : W3.heap[w0.heap.size]? = some (.deferred (some [])) := (hgl.block _ (Array.getElem?_eq_some_iff.1 hd).1 (fun e => by have := Option.some.inj e; omega)).trans hd
    have hb3 : Below w.heap.size w W3 := hb.grown hgl hb.size (fun k e => by have := Option.some.inj e; omega)
    clear hW3 hend hend' hpe hl hd hrow hv
    have hc := hv3.cell
    clear hrec
    gi_wp2
    refine ⟨by simp, .inl ⟨_, _, rfl, run_takeDeferred hd3, ?_⟩⟩
    exact ⟨_, results_tmp2 rfl _ _ _, v, rfl, own_weaken (ownsRow_putObj hr3 _ hd3 rfl) (by omega), hb3.trans (belowK_b (w := w) (Nat.le_refl _) W3 w0.heap.size _ _ (by omega) hd3 rfl rfl)⟩

/-- What Split computes. -/
def geom_Geom_Split.f (o c a n : Int) : Option (List PGeomSpans.S43 × Int) :=
  (PGeomSpans.geom_Geom_Right.f o c).bind fun r =>
    if r = true then
      if a < 0 then some ([], 2) else if n < 0 then some ([], 2) else if a > o then some ([], 2) else if n > o - a then some ([], 2)
      else some (piecesF c.toNat n.toNat a.toNat n.toNat, 0)
    else some ([], 1)

theorem reps_pieces {w : World} {base : Nat} {ok : Nat → Prop} (ps : List PGeomSpans.S43) : Reps (PGeomSpans.k43.M w base ok) 3 ps (pieceCells ps) := by
  refine ⟨pieceCells_length ps, ?_⟩
  induction ps with
  | nil => intro j p h; simp at h
  | cons x xs ih =>
    intro j p h
    cases j with
    | zero =>
      simp at h
      subst h
      simp only [pieceCells, Nat.zero_mul, List.drop_zero, List.take_succ_cons, List.take_zero]
      exact PGeomSpans.k43_mkM _ _ _ _
    | succ j =>
      simp at h
      have := ih j p h
      rw [show (j + 1) * 3 = j * 3 + 3 by omega]
      simpa only [pieceCells, List.drop_succ_cons] using this

/-- What stands in the box of Split's receiver, in a world that has grown out of the one behind it. -/
theorem split_box (o c : Int) (w w1 : World) (hb : Below (w.alloc (.cells #[.int .i64 o, .int .i64 c] 23)).heap.size (w.alloc (.cells #[.int .i64 o, .int .i64 c] 23)) w1) :
    w1.cell? ⟨w.heap.size, 0, none⟩ = some (.int .i64 o) ∧ w1.cell? ⟨w.heap.size, 1, none⟩ = some (.int .i64 c) ∧ w.heap.size < w1.heap.size ∧ Below w.heap.size w w1 := by
  have hz := hb.size
  simp only [World.size_alloc] at hz
  refine ⟨?_, ?_, by omega, ((Below.refl _ w).alloc (Nat.le_refl _) _).trans (hb.mono (by simp))⟩
  · rw [hb.cell (p := ⟨w.heap.size, 0, none⟩) (by simp)]; go_simp
  · rw [hb.cell (p := ⟨w.heap.size, 1, none⟩) (by simp)]; go_simp

set_option maxRecDepth 100000 in
set_option maxHeartbeats 4000000 in
theorem geom_Geom_Split.calls (o c a n : Int) (r1 : List PGeomSpans.S43) (r2 : Int) (w : World) (h : geom_Geom_Split.f o c a n = some (r1, r2)) :
    Calls Try.prog 17 #[.agg #[.int .i64 o, .int .i64 c], .int .i64 a, .int .i64 n] w fun e w' => ∃ v0_ : Value, e = .returned (.tuple #[v0_, .int .i64 r2]) ∧ Kd.R PGeomSpans.k43 43 w' w.heap.size (fun _ => True) v0_ r1 ∧ Below w.heap.size w w' := by
  unfold geom_Geom_Split.f at h
  rw [right_iff] at h
  simp only [Option.bind_some, decide_eq_true_eq] at h
  have hu23 := Try.underlying23
  have HR := Lib.hid (right_iff o c)
  have hbad : ∀ r2', (some (([] : List PGeomSpans.S43), (r2' : Int)) = some (r1, r2)) → r1 = [] ∧ r2 = r2' := fun r2' e => by
    simp only [Option.some.injEq, Prod.mk.injEq] at e
    exact ⟨e.1.symm, e.2.symm⟩
  have HBAD := Lib.hid hbad
  clear hbad
  by_cases hr : 1 ≤ o ∧ o ≤ 1048576 ∧ 1 ≤ c ∧ c ≤ 128
  · rw [if_pos hr] at h
    rw [show decide (1 ≤ o ∧ o ≤ 1048576 ∧ 1 ≤ c ∧ c ≤ 128) = true from decide_eq_true hr] at HR
    obtain ⟨q1, q2, q3, q4⟩ := hr
    by_cases h1 : a < 0
    · rw [if_pos h1] at h
      obtain ⟨rfl, rfl⟩ := HBAD.out _ h
      clear h
      go_enter Try.func17, Try.ntmps17
      go_wp2_with fail
      refine (PGeomSpans.geom_Geom_Right.calls o c _ _ HR.out).mono ?_
      rintro e w1 ⟨rfl, hb⟩
      obtain ⟨g0, g1, hlt1, hb'⟩ := split_box o c w w1 hb
      go_wp2
      go_ret2
      exact ⟨_, rfl, Kd.R_nil _ _ _ _ _, hb'⟩
    · rw [if_neg h1] at h
      have d1 : decide (a < 0) = false := decide_eq_false h1
      by_cases h2 : n < 0
      · rw [if_pos h2] at h
        obtain ⟨rfl, rfl⟩ := HBAD.out _ h
        clear h
        clear h1
        go_enter Try.func17, Try.ntmps17
        go_wp2_with fail
        refine (PGeomSpans.geom_Geom_Right.calls o c _ _ HR.out).mono ?_
        rintro e w1 ⟨rfl, hb⟩
        obtain ⟨g0, g1, hlt1, hb'⟩ := split_box o c w w1 hb
        go_wp2
        go_ret2
        exact ⟨_, rfl, Kd.R_nil _ _ _ _ _, hb'⟩
      · rw [if_neg h2] at h
        have d2 : decide (n < 0) = false := decide_eq_false h2
        by_cases h3 : a > o
        · rw [if_pos h3] at h
          obtain ⟨rfl, rfl⟩ := HBAD.out _ h
          clear h
          clear h1 h2
          have d3 : decide (o < a) = true := decide_eq_true h3
          go_enter Try.func17, Try.ntmps17
          go_wp2_with fail
          refine (PGeomSpans.geom_Geom_Right.calls o c _ _ HR.out).mono ?_
          rintro e w1 ⟨rfl, hb⟩
          obtain ⟨g0, g1, hlt1, hb'⟩ := split_box o c w w1 hb
          go_wp2
          go_ret2
          exact ⟨_, rfl, Kd.R_nil _ _ _ _ _, hb'⟩
        · rw [if_neg h3] at h
          have d3 : decide (o < a) = false := decide_eq_false h3
          by_cases h4 : n > o - a
          · rw [if_pos h4] at h
            obtain ⟨rfl, rfl⟩ := HBAD.out _ h
            clear h
            have d4 : decide (o - a < n) = true := decide_eq_true h4
            have e1 : 0 ≤ a := by omega
            have e2 : a ≤ o := by omega
            clear h1 h2 h3 h4
            go_enter Try.func17, Try.ntmps17
            go_wp2_with fail
            refine (PGeomSpans.geom_Geom_Right.calls o c _ _ HR.out).mono ?_
            rintro e w1 ⟨rfl, hb⟩
            obtain ⟨g0, g1, hlt1, hb'⟩ := split_box o c w w1 hb
            go_wp2
            go_ret2
            exact ⟨_, rfl, Kd.R_nil _ _ _ _ _, hb'⟩
          · rw [if_neg h4] at h
            simp only [Option.some.injEq, Prod.mk.injEq] at h
            obtain ⟨rfl, rfl⟩ := h
            obtain ⟨on, rfl⟩ := Int.eq_ofNat_of_zero_le (show 0 ≤ o by omega)
            obtain ⟨cn, rfl⟩ := Int.eq_ofNat_of_zero_le (show 0 ≤ c by omega)
            obtain ⟨an, rfl⟩ := Int.eq_ofNat_of_zero_le (show 0 ≤ a by omega)
            obtain ⟨nn, rfl⟩ := Int.eq_ofNat_of_zero_le (show 0 ≤ n by omega)
            simp only [Int.toNat_natCast]
            refine (callsIn_wide.1 (split_ok on cn an nn (by omega) (by omega) (by omega) (by omega) (by omega) w)).mono ?_
            rintro e w' ⟨v, rfl, hrow, hb⟩
            exact ⟨v, rfl, ⟨fun _ _ => trivial, _, hrow, reps_pieces _⟩, hb⟩
  · rw [if_neg hr] at h
    rw [show decide (1 ≤ o ∧ o ≤ 1048576 ∧ 1 ≤ c ∧ c ≤ 128) = false from decide_eq_false hr] at HR
    obtain ⟨rfl, rfl⟩ := HBAD.out _ h
    clear h hr
    go_enter Try.func17, Try.ntmps17
    go_wp2_with fail
    refine (PGeomSpans.geom_Geom_Right.calls o c _ _ HR.out).mono ?_
    rintro e w1 ⟨rfl, hb⟩
    obtain ⟨g0, g1, hlt1, hb'⟩ := split_box o c w w1 hb
    go_wp2
    go_ret2
    exact ⟨_, rfl, Kd.R_nil _ _ _ _ _, hb'⟩

end Go.Proofs.Ytfkbcldeohblpaa
