/- The iterator of (geom.Geom).pieces (function 77): it yields the pieces of n sectors from at on, one after the other. -/
import Derived.RangeFuncNested
import Derived.RangeFuncBound
import Derived.RangeFuncCalls
import Derived.RangeFuncLeaves
import Derived.Shelf.Abstract
import Derived.Shelf.RegionOpen
import Derived.WalkKit
import Derived.OwnWalkIn
import Derived.TacticsInMore
import Derived.LoopNIn
import Derived.LoopIn
import Derived.BigRegionIn
import Derived.Test.YtfkbcldeohblpaaGRoom
namespace Go.Proofs.Ytfkbcldeohblpaa
set_option linter.unusedVariables false
set_option linter.unusedSimpArgs false
open Go.RowKit Go.Shelf

/-- How many sectors the first piece has. -/
def pieceN (c at_ n : Nat) : Nat := if c - at_ % c < n then c - at_ % c else n

/-- The first piece. -/
def piece1 (c at_ n : Nat) : PGeomSpans.S43 := ⟨(at_ : Int) / (c : Int), (at_ : Int) % (c : Int), if (c : Int) - (at_ : Int) % (c : Int) < (n : Int) then (c : Int) - (at_ : Int) % (c : Int) else (n : Int)⟩

/-- The pieces of n sectors from at on, of chunks of c; k bounds the rounds. -/
def piecesF (c : Nat) : Nat → Nat → Nat → List PGeomSpans.S43
  | 0, _, _ => []
  | k + 1, at_, n => if n = 0 then [] else piece1 c at_ n :: piecesF c k (at_ + pieceN c at_ n) (n - pieceN c at_ n)

/-- A piece as a value. -/
def pieceV (p : PGeomSpans.S43) : Value := .agg #[.int .i64 p.f0, .int .i64 p.f1, .int .i64 p.f2]

/-- What a round leaves as it was: the three boxes of the iterator, and what it laid since its last step. -/
def RoundKept (bg ba bn : Nat) (W0 W W' : World) : Prop := ∀ k, k = bg ∨ k = ba ∨ k = bn ∨ (W0.heap.size ≤ k ∧ k < W.heap.size) → W'.heap[k]? = W.heap[k]?

theorem grownBy_drewN {w w' : World} {row : Option Nat} (h : w.grownBy w' row) : w.grownBy w'.drew row := ⟨h.os, h.tape, h.output, h.size, h.block⟩

/-- The number in a box. -/
def boxNat (w : World) (b : Nat) : Nat := match w.cell? ⟨b, 0, none⟩ with | some v => (intOf v).toNat | none => 0

theorem boxNat_of {w : World} {b : Nat} {x : Int} (h : w.cell? ⟨b, 0, none⟩ = some (.int .i64 x)) : boxNat w b = x.toNat := by
  unfold boxNat; rw [h]; rfl

/-- The world behind a round's stores into the two boxes. -/
theorem two_boxes {W3 : World} {ba bn bg : Nat} {x y x' y' : Value} {oc : Obj} (hne : ba ≠ bn) (hng : bg ≠ ba) (hng2 : bg ≠ bn)
    (ka : Boxed W3 ba 3 x) (kb : Boxed W3 bn 3 y) (kg : W3.heap[bg]? = some oc) :
    (((W3.setCell ⟨ba, 0, none⟩ x').setCell ⟨bn, 0, none⟩ y').drew).heap[bg]? = some oc ∧ Boxed (((W3.setCell ⟨ba, 0, none⟩ x').setCell ⟨bn, 0, none⟩ y').drew) ba 3 x' ∧ Boxed (((W3.setCell ⟨ba, 0, none⟩ x').setCell ⟨bn, 0, none⟩ y').drew) bn 3 y' := by
  refine ⟨?_, ?_, ?_⟩
  · exact ((Below.heap_setCell _ _ _ _ hng2).trans (Below.heap_setCell _ _ _ _ hng)).trans kg
  · exact ((ka.set x').other hne y' : Boxed ((W3.setCell ⟨ba, 0, none⟩ x').setCell ⟨bn, 0, none⟩ y') ba 3 x')
  · exact ((kb.other (Ne.symm hne) x').set y' : Boxed ((W3.setCell ⟨ba, 0, none⟩ x').setCell ⟨bn, 0, none⟩ y') bn 3 y')

theorem pieces_rel {J : List PGeomSpans.S43 → World → Prop} {ba bn bg N c a' n' k : Nat} {o : Int} {all pre : List PGeomSpans.S43} {x : PGeomSpans.S43} {W3 : World} {A B : Int}
    (hJ : ∀ s A B row, J s A → A.grownBy B row → (∀ r, row = some r → r = ba ∨ r = bn) → J s B)
    (hne : ba ≠ bn) (hng : bg ≠ ba) (hng2 : bg ≠ bn) (hall : all = (pre ++ [x]) ++ piecesF c (k - 1) (a' + pieceN c a' n') (n' - pieceN c a' n'))
    (hz : n' ≠ 0) (hnk : n' ≤ k) (hlen : pre.length + n' ≤ N) (hat' : a' + n' ≤ 1048576) (hpn : pieceN c a' n' ≤ n') (hpp : 1 ≤ pieceN c a' n')
    (hA : A = ((a' + pieceN c a' n' : Nat) : Int)) (hB : B = ((n' - pieceN c a' n' : Nat) : Int))
    (ka : Boxed W3 ba 3 (.int .i64 a')) (kb : Boxed W3 bn 3 (.int .i64 n')) (kg : W3.heap[bg]? = some (.cells #[.int .i64 o, .int .i64 c] 23 (0, 0))) (hJ3 : J (pre ++ [x]) W3) :
    ∃ (pre : List PGeomSpans.S43) (a' n' k : Nat), pre ++ piecesF c k a' n' = all ∧ n' ≤ k ∧ pre.length + n' ≤ N ∧ a' + n' ≤ 1048576 ∧
      (((W3.setCell ⟨ba, 0, none⟩ (.int .i64 A)).setCell ⟨bn, 0, none⟩ (.int .i64 B)).drew).heap[bg]? = some (.cells #[.int .i64 o, .int .i64 c] 23 (0, 0)) ∧
      Boxed (((W3.setCell ⟨ba, 0, none⟩ (.int .i64 A)).setCell ⟨bn, 0, none⟩ (.int .i64 B)).drew) ba 3 (.int .i64 a') ∧ Boxed (((W3.setCell ⟨ba, 0, none⟩ (.int .i64 A)).setCell ⟨bn, 0, none⟩ (.int .i64 B)).drew) bn 3 (.int .i64 n') ∧
      J pre (((W3.setCell ⟨ba, 0, none⟩ (.int .i64 A)).setCell ⟨bn, 0, none⟩ (.int .i64 B)).drew) := by
  subst hA; subst hB
  obtain ⟨h1, h2, h3⟩ := two_boxes (x' := .int .i64 ((a' + pieceN c a' n' : Nat) : Int)) (y' := .int .i64 ((n' - pieceN c a' n' : Nat) : Int)) hne hng hng2 ka kb kg
  refine ⟨pre ++ [x], a' + pieceN c a' n', n' - pieceN c a' n', k - 1, hall.symm, by omega, by simp; omega, by omega, h1, h2, h3, ?_⟩
  exact hJ _ _ _ _ (hJ _ _ _ _ hJ3 (grownBy_setCell' W3 ba _) (fun r e => .inl (by cases e; rfl))) (grownBy_drewN (grownBy_setCell' _ bn _)) (fun r e => .inr (by cases e; rfl))

set_option maxRecDepth 100000 in
set_option maxHeartbeats 4000000 in
theorem pieces1_in (m : Nat) (hm : 1 ≤ m) (l bg ba bn N : Nat) (o c : Nat) (hc1 : 1 ≤ c) (hc2 : c ≤ 128) (J : List PGeomSpans.S43 → World → Prop)
    (hJ : ∀ s A B row, J s A → A.grownBy B row → (∀ r, row = some r → r = ba ∨ r = bn) → J s B)
    (hne : ba ≠ bn) (hng : bg ≠ ba) (hng2 : bg ≠ bn)
    (hY : ∀ pre x W0 W, J pre W0 → W0.grownBy W none → pre.length < N → YieldAt Fence.wide (m - 1) Try.prog l #[pieceV x] W fun e W' =>
      e = .returned (.bool true) ∧ J (pre ++ [x]) W' ∧ RoundKept bg ba bn W0 W W')
    (W : World) (at_ n : Nat) (hat : at_ + n ≤ 1048576) (hN : n ≤ N) (hg : W.heap[bg]? = some (.cells #[.int .i64 o, .int .i64 c] 23 (0, 0))) (ha : Boxed W ba 3 (.int .i64 at_)) (hb : Boxed W bn 3 (.int .i64 n)) (h0 : J [] W) :
    CallsIn Fence.wide m Try.prog 77 #[.func (.yield l) #[] #[], .pointer (some ⟨bn, 0, none⟩), .pointer (some ⟨ba, 0, none⟩), .pointer (some ⟨bg, 0, none⟩)] W fun e W' => (∃ v, e = .returned v) ∧ J (piecesF c n at_ n) W' := by
  have hu23 := Try.underlying23
  have hu43 := Try.underlying43
  refine callsIn_of_wp Try.func77 rfl trivial ?_ rfl
  simp only [Try.ntmps77, List.size_toArray, List.length_cons, List.length_nil, Nat.reduceAdd, Nat.reduceSub, Array.replicate_succ, Array.replicate_zero, List.push_toArray, List.append_toArray, List.nil_append, List.cons_append]
  gi_wp2
  gi_loopw [5] (fun _ wr => ∃ (pre : List PGeomSpans.S43) (a' n' k : Nat), pre ++ piecesF c k a' n' = piecesF c n at_ n ∧ n' ≤ k ∧ pre.length + n' ≤ N ∧ a' + n' ≤ 1048576 ∧ wr.heap[bg]? = some (.cells #[.int .i64 o, .int .i64 c] 23 (0, 0)) ∧ Boxed wr ba 3 (.int .i64 a') ∧ Boxed wr bn 3 (.int .i64 n') ∧ J pre wr)
    (fun _ wr => boxNat wr bn)
  case atStart =>
    exact ⟨[], at_, n, n, rfl, Nat.le_refl _, by simpa using hN, hat, hg, ha, hb, h0⟩
  case round =>
    obtain ⟨pre, a', n', k, hpre, hnk, hlen, hat', hg', ha', hb', hJ'⟩ := hrel
    have ca := ha'.cell
    have cb := hb'.cell
    have fa := ha'.frozen
    have fb := hb'.frozen
    have cg0 : wr.cell? ⟨bg, 0, none⟩ = some (.int .i64 o) := by simp [World.cell?, hg']
    have cg1 : wr.cell? ⟨bg, 1, none⟩ = some (.int .i64 c) := by simp [World.cell?, hg']
    by_cases hz : n' = 0
    · subst hz
      gi_wp2
      go_end0
      obtain rfl : pre = piecesF c n at_ n := by
        rw [← hpre]; cases k <;> simp [piecesF]
      exact ⟨⟨_, rfl⟩, hJ'⟩
    · have hpos : decide ((0 : Int) < (n' : Int)) = true := decide_eq_true (by omega)
      have hcz : ((c : Int) == 0) = false := beq_eq_false_iff_ne.2 (by omega)
      have la := ha'.lt
      have lb := hb'.lt
      have lg : bg < wr.heap.size := (Array.getElem?_eq_some_iff.1 hg').1
      have ea : ¬ ba = wr.heap.size := by omega
      have eb : ¬ bn = wr.heap.size := by omega
      have eg : ¬ bg = wr.heap.size := by omega
      have hq0 : (0 : Int) ≤ (a' : Int) / (c : Int) := Int.ediv_nonneg (by omega) (by omega)
      have hq1 : (a' : Int) / (c : Int) ≤ 1048576 := Int.le_trans (Int.ediv_le_self _ (by omega)) (by omega)
      have hr0 : (0 : Int) ≤ (a' : Int) % (c : Int) := Int.emod_nonneg _ (by omega)
      have hr1 : (a' : Int) % (c : Int) < (c : Int) := Int.emod_lt_of_pos _ (by omega)
      have hpn : pieceN c a' n' ≤ n' := by unfold pieceN; split <;> omega
      have hpp : 1 ≤ pieceN c a' n' := by unfold pieceN; have : a' % c < c := Nat.mod_lt _ (by omega); split <;> omega
      have hp2 : piecesF c n at_ n = (pre ++ [piece1 c a' n']) ++ piecesF c (k - 1) (a' + pieceN c a' n') (n' - pieceN c a' n') := by
        rw [← hpre]
        obtain ⟨k', rfl⟩ : ∃ k', k = k' + 1 := ⟨k - 1, by omega⟩
        simp [piecesF, hz]
      have HP2 := Lib.hid hp2
      clear hp2 hpre
      by_cases hmin : (c : Int) - (a' : Int) % (c : Int) < (n' : Int)
      · obtain ⟨fn, tmps, assign, body, hy, hR⟩ := hY pre (piece1 c a' n') wr ((wr.alloc (.cells #[.int .i64 ((a' : Int) / (c : Int)), .int .i64 ((a' : Int) % (c : Int)), .int .i64 ((c : Int) - (a' : Int) % (c : Int))] 43)).drew) hJ'
          (grownBy_drewN (World.grownBy_alloc wr _ none)) (by omega)
        have hx : #[pieceV (piece1 c a' n')] = #[.agg #[.int .i64 ((a' : Int) / (c : Int)), .int .i64 ((a' : Int) % (c : Int)), .int .i64 ((c : Int) - (a' : Int) % (c : Int))]] := by
          unfold pieceV piece1; rw [if_pos hmin]
        rw [hx] at hy
        clear hx
        have hA : (a' : Int) + ((c : Int) - (a' : Int) % (c : Int)) = ((a' + pieceN c a' n' : Nat) : Int) := by unfold pieceN; rw [if_pos (by omega)]; omega
        have hB : (n' : Int) - ((c : Int) - (a' : Int) % (c : Int)) = ((n' - pieceN c a' n' : Nat) : Int) := by unfold pieceN; rw [if_pos (by omega)]; omega
        have HA := Lib.hid hA
        have HB := Lib.hid hB
        clear hA hB
        gi_wp2
        gi_region
        gi_wp2
        refine hR.mono ?_
        rintro e W3 ⟨rfl, hJ3, hk3⟩
        have kp : W3.heap[wr.heap.size]? = some (.cells #[.int .i64 ((a' : Int) / (c : Int)), .int .i64 ((a' : Int) % (c : Int)), .int .i64 ((c : Int) - (a' : Int) % (c : Int))] 43) :=
          (hk3 wr.heap.size (.inr (.inr (.inr ⟨Nat.le_refl _, by show wr.heap.size < (wr.heap.push _).size; simp⟩)))).trans (World.alloc_heap_new wr _)
        have kg : W3.heap[bg]? = some (.cells #[.int .i64 o, .int .i64 c] 23 (0, 0)) := (hk3 bg (.inl rfl)).trans ((Below.heap_alloc wr _ bg lg).trans hg')
        have ka : Boxed W3 ba 3 (.int .i64 a') := (hk3 ba (.inr (.inl rfl))).trans ((Below.heap_alloc wr _ ba la).trans ha')
        have kb : Boxed W3 bn 3 (.int .i64 n') := (hk3 bn (.inr (.inr (.inl rfl)))).trans ((Below.heap_alloc wr _ bn lb).trans hb')
        clear hy hR hk3 hJ'
        have c3a := ka.cell
        have c3b := kb.cell
        have f3a := ka.frozen
        have f3b := kb.frozen
        have c3p : W3.cell? ⟨wr.heap.size, 2, none⟩ = some (.int .i64 ((c : Int) - (a' : Int) % (c : Int))) := by simp [World.cell?, kp]
        gi_wp2
        gi_region
        gi_wp2
        go_roundw
        case rel => exact pieces_rel hJ hne hng hng2 HP2.out hz hnk hlen hat' hpn hpp HA.out HB.out ka kb kg hJ3
        case measure =>
          have h3 := (two_boxes (x' := .int .i64 ((a' : Int) + ((c : Int) - (a' : Int) % (c : Int)))) (y' := .int .i64 ((n' : Int) - ((c : Int) - (a' : Int) % (c : Int)))) hne hng hng2 ka kb kg).2.2.cell
          rw [boxNat_of h3, boxNat_of cb]
          omega
      · obtain ⟨fn, tmps, assign, body, hy, hR⟩ := hY pre (piece1 c a' n') wr ((wr.alloc (.cells #[.int .i64 ((a' : Int) / (c : Int)), .int .i64 ((a' : Int) % (c : Int)), .int .i64 (n' : Int)] 43)).drew) hJ'
          (grownBy_drewN (World.grownBy_alloc wr _ none)) (by omega)
        have hx : #[pieceV (piece1 c a' n')] = #[.agg #[.int .i64 ((a' : Int) / (c : Int)), .int .i64 ((a' : Int) % (c : Int)), .int .i64 (n' : Int)]] := by
          unfold pieceV piece1; rw [if_neg hmin]
        rw [hx] at hy
        clear hx
        have hA : (a' : Int) + ((n' : Int)) = ((a' + pieceN c a' n' : Nat) : Int) := by unfold pieceN; rw [if_neg (by omega)]; omega
        have hB : (0 : Int) = ((n' - pieceN c a' n' : Nat) : Int) := by unfold pieceN; rw [if_neg (by omega)]; omega
        have HA := Lib.hid hA
        have HB := Lib.hid hB
        clear hA hB
        gi_wp2
        gi_region
        gi_wp2
        refine hR.mono ?_
        rintro e W3 ⟨rfl, hJ3, hk3⟩
        have kp : W3.heap[wr.heap.size]? = some (.cells #[.int .i64 ((a' : Int) / (c : Int)), .int .i64 ((a' : Int) % (c : Int)), .int .i64 (n' : Int)] 43) :=
          (hk3 wr.heap.size (.inr (.inr (.inr ⟨Nat.le_refl _, by show wr.heap.size < (wr.heap.push _).size; simp⟩)))).trans (World.alloc_heap_new wr _)
        have kg : W3.heap[bg]? = some (.cells #[.int .i64 o, .int .i64 c] 23 (0, 0)) := (hk3 bg (.inl rfl)).trans ((Below.heap_alloc wr _ bg lg).trans hg')
        have ka : Boxed W3 ba 3 (.int .i64 a') := (hk3 ba (.inr (.inl rfl))).trans ((Below.heap_alloc wr _ ba la).trans ha')
        have kb : Boxed W3 bn 3 (.int .i64 n') := (hk3 bn (.inr (.inr (.inl rfl)))).trans ((Below.heap_alloc wr _ bn lb).trans hb')
        clear hy hR hk3 hJ'
        have c3a := ka.cell
        have c3b := kb.cell
        have f3a := ka.frozen
        have f3b := kb.frozen
        have c3p : W3.cell? ⟨wr.heap.size, 2, none⟩ = some (.int .i64 (n' : Int)) := by simp [World.cell?, kp]
        gi_wp2
        gi_region
        gi_wp2
        go_roundw
        case rel => exact pieces_rel hJ hne hng hng2 HP2.out hz hnk hlen hat' hpn hpp HA.out HB.out ka kb kg hJ3
        case measure =>
          have h3 := (two_boxes (x' := .int .i64 ((a' : Int) + ((n' : Int)))) (y' := .int .i64 (0 : Int)) hne hng hng2 ka kb kg).2.2.cell
          rw [boxNat_of h3, boxNat_of cb]
          omega

end Go.Proofs.Ytfkbcldeohblpaa
