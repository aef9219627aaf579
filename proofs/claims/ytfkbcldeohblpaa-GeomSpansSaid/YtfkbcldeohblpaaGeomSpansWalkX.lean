/- GeomSpans answers true at every input. -/
import Derived.Test.YtfkbcldeohblpaaGSpansWalk
import Derived.Test.YtfkbcldeohblpaaGPure
import Derived.OpenShut
namespace Go.Proofs.Ytfkbcldeohblpaa
set_option linter.unusedVariables false
set_option linter.unusedSimpArgs false
open Go.RowKit Go.Proofs.YtfkbcldeohblpaaW.PrintWords

theorem span_some (o c n : Int) : ∃ r, PGeomSpans.geom_Geom_Span.f o c n = some r := by
  by_cases hr : 1 ≤ o ∧ o ≤ 1048576 ∧ 1 ≤ c ∧ c ≤ 128
  · obtain ⟨h1, h2, h3, h4⟩ := hr
    obtain ⟨o, rfl⟩ := Int.eq_ofNat_of_zero_le (show 0 ≤ o by omega)
    obtain ⟨c, rfl⟩ := Int.eq_ofNat_of_zero_le (show 0 ≤ c by omega)
    unfold PGeomSpans.geom_Geom_Span.f
    rw [right_yes _ _ h1 h2 h3 h4, chunks_eq o c (by omega) (by omega) (by omega) (by omega)]
    simp only [Option.bind_some, if_true]
    split
    · exact ⟨_, rfl⟩
    · split <;> exact ⟨_, rfl⟩
  · unfold PGeomSpans.geom_Geom_Span.f
    rw [right_no _ _ hr]
    exact ⟨_, rfl⟩

theorem chunks_some (o c : Int) : ∃ r, PGeomSpans.geom_Geom_Chunks.f o c = some r := by
  by_cases hr : 1 ≤ o ∧ o ≤ 1048576 ∧ 1 ≤ c ∧ c ≤ 128
  · obtain ⟨h1, h2, h3, h4⟩ := hr
    obtain ⟨o, rfl⟩ := Int.eq_ofNat_of_zero_le (show 0 ≤ o by omega)
    obtain ⟨c, rfl⟩ := Int.eq_ofNat_of_zero_le (show 0 ≤ c by omega)
    exact ⟨_, chunks_eq o c (by omega) (by omega) (by omega) (by omega)⟩
  · unfold PGeomSpans.geom_Geom_Chunks.f
    rw [right_no _ _ hr]
    exact ⟨_, rfl⟩

theorem spans_main (k : Nat) (hk : 1048577 < k) (a b c d e : Int) (he : -9223372036854775808 ≤ e ∧ e ≤ 9223372036854775807) : PGeomSpans.oakumlaw05_GeomSpans.j0 (k + 1) c false a b d e = some true := by
  obtain ⟨sp, hsp⟩ := span_some a b c
  obtain ⟨ch, hch⟩ := chunks_some a b
  obtain ⟨l, er, hs1, hs2, hl⟩ := ref_split_any a b d e k hk he
  simp only [PGeomSpans.oakumlaw05_GeomSpans.j0]
  rw [hsp, ref_span_any a b c k (by omega), hsp, hs1, hs2]
  simp only [Option.bind_some]
  rw [same_conv l hl k (by omega), PGeomSpans.oakumlaw05_alive.yes]
  simp only [Option.bind_some, if_true]
  rw [ref_right, right_iff, hch, ref_chunks_any a b k (by omega), hch]
  simp

theorem GeomSpans_walk (a b c d e : Int) (wa : (Lit.int .i64 a).wf = true) (wb : (Lit.int .i64 b).wf = true) (wc : (Lit.int .i64 c).wf = true) (wd : (Lit.int .i64 d).wf = true) (we : (Lit.int .i64 e).wf = true) (w : World) :
    Calls Try.prog 3 #[.agg #[.int .i64 a, .int .i64 b], .int .i64 c, .agg #[.int .i64 d, .int .i64 e]] w fun e w' => e = .returned (.bool true) ∧ Below w.heap.size w w' := by
  have be := bounds_i64 we
  refine PGeomSpans.oakumlaw05_GeomSpans.calls (1048578 + 1) a b c d e true w (Aside0.mk rfl) ?_
  generalize hk : 1048578 = k
  have hk' : 1048577 < k := by omega
  clear hk
  have hm := spans_main k hk' a b c d e be
  unfold PGeomSpans.oakumlaw05_GeomSpans.f
  split
  · by_cases h : a ≤ 1048576
    · rw [decide_eq_true h]
      simp only [PGeomSpans.oakumlaw05_GeomSpans.j0, if_true]
      rw [PGeomSpans.oakumlaw05_alive.yes]; rfl
    · rw [decide_eq_false h]; exact hm
  · exact hm

end Go.Proofs.Ytfkbcldeohblpaa
