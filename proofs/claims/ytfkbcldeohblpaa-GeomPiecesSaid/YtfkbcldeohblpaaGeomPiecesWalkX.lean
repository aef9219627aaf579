/- GeomPieces answers true at every input. -/
import Derived.Test.YtfkbcldeohblpaaGPiecesWalk
import Derived.Test.YtfkbcldeohblpaaGPure
import Derived.OpenShut
namespace Go.Proofs.Ytfkbcldeohblpaa
set_option linter.unusedVariables false
set_option linter.unusedSimpArgs false
open Go.RowKit Go.Proofs.YtfkbcldeohblpaaW.PrintWords
open PGeomSpans (S43 S94 rd_T94 rd_T43)

theorem span_at (o c a : Nat) (h1 : 1 ≤ o) (h2 : o ≤ 1048576) (h3 : 1 ≤ c) (h4 : c ≤ 128) (ha : a < o) :
    PGeomSpans.geom_Geom_Span.f o c ((a / c : Nat) : Int) = some (((a / c * c : Nat) : Int), ((min c (o - a / c * c) : Nat) : Int), 0) := by
  have hd : a / c * c ≤ a := Nat.div_mul_le_self _ _
  have hlt := (chunks_le o c (a / c) h3).2 (by omega)
  have hq : a / c ≤ a := Nat.div_le_self _ _
  unfold PGeomSpans.geom_Geom_Span.f
  rw [right_yes o c (by omega) (by omega) (by omega) (by omega), chunks_eq o c h1 h2 h3 h4]
  simp only [Option.bind_some, if_true]
  generalize hqq : a / c = q at *
  rw [if_neg (by omega), if_neg (by omega)]
  have hm : ((q : Int) * (c : Int)) = ((q * c : Nat) : Int) := by push_cast; rfl
  rw [hm, wrap64_nat (q * c) (by omega)]
  have e : wrap64 ((o : Int) - ((q * c : Nat) : Int)) = ((o - q * c : Nat) : Int) := by
    rw [show (o : Int) - ((q * c : Nat) : Int) = ((o - q * c : Nat) : Int) by omega]
    exact wrap64_nat _ (by omega)
  rw [e]
  unfold mn
  congr 3
  split <;> omega

theorem split_err (o c a n : Nat) (h1 : 1 ≤ o) (h2 : o ≤ 1048576) (h3 : 1 ≤ c) (h4 : c ≤ 128) (ha : a ≤ o) (hn : o - a < n) : geom_Geom_Split.f o c a n = some ([], 2) := by
  unfold geom_Geom_Split.f
  rw [right_yes o c (by omega) (by omega) (by omega) (by omega)]
  simp only [Option.bind_some, if_true]
  rw [if_neg (by omega), if_neg (by omega), if_neg (by omega), if_pos (by omega)]

theorem pieces_end (o c s L : Nat) (h1 : 1 ≤ o) (h2 : o ≤ 1048576) (h3 : 1 ≤ c) (h4 : c ≤ 128) (hL : s + L ≤ o) (l : List S43) (k i a : Nat) (hi : l.length ≤ i) (ha : a = s + L) :
    PGeomSpans.oakumlaw05_GeomPieces.l0 (k + 1) l a i o c s L = some true := by
  subst ha
  have hso : s ≤ o := by omega
  have hsn : o - s < o - s + 1 := by omega
  have y1 : (o : Int) - (s : Int) = ((o - s : Nat) : Int) := by omega
  have y2 : ((o - s : Nat) : Int) + 1 = ((o - s + 1 : Nat) : Int) := by omega
  have y3 : (s : Int) + (L : Int) = ((s + L : Nat) : Int) := by omega
  have z1 : o - s ≤ 9223372036854775807 := by omega
  have z2 : o - s + 1 ≤ 9223372036854775807 := by omega
  have z3 : s + L ≤ 9223372036854775807 := by omega
  have hn : ¬ ((i : Int) < (l.length : Int)) := by omega
  simp only [PGeomSpans.oakumlaw05_GeomPieces.l0]
  rw [if_neg hn, y1, wrap64_nat _ z1, y2, wrap64_nat _ z2, y3, wrap64_nat _ z3, split_err o c s (o - s + 1) h1 h2 h3 h4 hso hsn, PGeomSpans.oakumlaw05_alive.yes]
  simp only [Option.bind_some, if_true]
  rfl

theorem pieces_round (o c s L : Nat) (h1 : 1 ≤ o) (h2 : o ≤ 1048576) (h3 : 1 ≤ c) (h4 : c ≤ 128) (l : List S43) (k i a p : Nat) (r : Option Bool) (hil : i < l.length) (hlb : l.length ≤ 1048576)
    (hget : rd_T43 l (i : Int) = ⟨((a / c : Nat) : Int), ((a % c : Nat) : Int), (p : Int)⟩) (hp1 : 1 ≤ p) (hp3 : p ≤ c - a % c) (hao : a + p ≤ o) (hz : i = 0 ∨ a % c = 0)
    (hnext : PGeomSpans.oakumlaw05_GeomPieces.l0 k l ((a + p : Nat) : Int) ((i + 1 : Nat) : Int) o c s L = r) :
    PGeomSpans.oakumlaw05_GeomPieces.l0 (k + 1) l a i o c s L = r := by
  have hsp := span_at o c a h1 h2 h3 h4 (by omega)
  have hm : a % c < c := Nat.mod_lt _ (by omega)
  have hdm : a / c * c + a % c = a := by rw [Nat.mul_comm]; exact Nat.div_add_mod a c
  have t5 : (i : Int) < (l.length : Int) := by omega
  have t6 : (0 : Int) ≤ (i : Int) := by omega
  rw [PGeomSpans.oakumlaw05_GeomPieces.l0, if_pos t5, if_pos t6, hget]
  dsimp only
  rw [hsp, Option.bind_some]
  dsimp only
  clear hsp hget
  generalize a / c * c = b at *
  generalize a % c = q at *
  have t2 : ¬ ((p : Int) < 1) := by omega
  have t3 : ¬ ((q : Int) < 0) := by omega
  have t4 : ¬ (((q + p : Nat) : Int) > ((min c (o - b) : Nat) : Int)) := by
    rw [Nat.min_def]; split <;> omega
  have t7 : (i : Int) > 0 → (q : Int) = 0 := by omega
  have x1 : (b : Int) + (q : Int) = (a : Int) := by omega
  have x2 : (q : Int) + (p : Int) = ((q + p : Nat) : Int) := by omega
  have x3 : (i : Int) + 1 = ((i + 1 : Nat) : Int) := by omega
  have x4 : (a : Int) + (p : Int) = ((a + p : Nat) : Int) := by omega
  have b1 : a ≤ 9223372036854775807 := by omega
  have b2 : q + p ≤ 9223372036854775807 := by omega
  have b3 : i + 1 ≤ 9223372036854775807 := by omega
  have b4 : a + p ≤ 9223372036854775807 := by omega
  rw [x1, x2, x3, x4, wrap64_nat _ b1, wrap64_nat _ b2, wrap64_nat _ b3, wrap64_nat _ b4]
  rw [if_pos rfl, if_pos rfl, if_neg t2, if_neg t3, if_neg t4]
  by_cases hi0 : (i : Int) > 0
  · rw [if_pos hi0, if_pos (t7 hi0)]
    exact hnext
  · rw [if_neg hi0]
    exact hnext

theorem pieces_l (o c s L : Nat) (h1 : 1 ≤ o) (h2 : o ≤ 1048576) (h3 : 1 ≤ c) (h4 : c ≤ 128) (hL : s + L ≤ o) (l : List S43) (hl : l.length ≤ 1048576) (m : Nat) :
    ∀ (k i a n : Nat), l.drop i = piecesF c m a n → n ≤ m → a + n = s + L → (i = 0 ∨ n = 0 ∨ a % c = 0) → i ≤ l.length → m < k →
      PGeomSpans.oakumlaw05_GeomPieces.l0 k l a i o c s L = some true := by
  induction m with
  | zero =>
    intro k i a n hd hn ha hz hi hk
    obtain ⟨k, rfl⟩ : ∃ q, k = q + 1 := ⟨k - 1, by omega⟩
    have hlen : l.length ≤ i := by simpa [piecesF] using hd
    exact pieces_end o c s L h1 h2 h3 h4 hL l k i a hlen (by omega)
  | succ m ih =>
    intro k i a n hd hn ha hz hi hk
    obtain ⟨k, rfl⟩ : ∃ q, k = q + 1 := ⟨k - 1, by omega⟩
    by_cases h0 : n = 0
    · subst h0
      refine ih (k + 1) i a 0 ?_ (by omega) ha (.inr (.inl rfl)) hi (by omega)
      rw [hd]
      cases m <;> simp [piecesF]
    · have hm : a % c < c := Nat.mod_lt _ (by omega)
      have hp1 : 1 ≤ pieceN c a n := by unfold pieceN; split <;> omega
      have hp2 : pieceN c a n ≤ n := by unfold pieceN; split <;> omega
      have hp3 : pieceN c a n ≤ c - a % c := by unfold pieceN; split <;> omega
      have hp4 : n - pieceN c a n = 0 ∨ (a + pieceN c a n) % c = 0 := by
        by_cases h : c - a % c < n
        · right
          have e : pieceN c a n = c - a % c := by unfold pieceN; rw [if_pos h]
          have hd := Nat.div_add_mod a c
          have : a + pieceN c a n = c * (a / c + 1) := by rw [e, Nat.mul_add]; omega
          rw [this]; exact Nat.mul_mod_right _ _
        · left
          have e : pieceN c a n = n := by unfold pieceN; rw [if_neg h]
          omega
      simp only [piecesF, if_neg h0] at hd
      have hil : i < l.length := by
        apply Decidable.byContradiction
        intro h
        rw [List.drop_eq_nil_of_le (by omega)] at hd
        cases hd
      have hcons := List.drop_eq_getElem_cons hil
      rw [hd] at hcons
      injection hcons with hhead htail
      have hf := piece1_f c a n h3
      have f0 : (piece1 c a n).f0 = ((a / c : Nat) : Int) := congrArg S94.f0 hf
      have f1 : (piece1 c a n).f1 = ((a % c : Nat) : Int) := congrArg S94.f1 hf
      have f2 : (piece1 c a n).f2 = ((pieceN c a n : Nat) : Int) := congrArg S94.f2 hf
      have hget : rd_T43 l (i : Int) = ⟨((a / c : Nat) : Int), ((a % c : Nat) : Int), ((pieceN c a n : Nat) : Int)⟩ := by
        unfold rd_T43
        rw [Int.toNat_natCast, List.getD_eq_getElem?_getD, List.getElem?_eq_getElem hil, Option.getD_some, ← hhead, ← f0, ← f1, ← f2]
      have hnext := ih k (i + 1) (a + pieceN c a n) (n - pieceN c a n) htail.symm (by omega) (by omega) (.inr hp4) (by omega) (by omega)
      exact pieces_round o c s L h1 h2 h3 h4 l k i a (pieceN c a n) (some true) hil hl hget hp1 hp3 (by omega) (by omega) hnext

theorem pieces_main (k : Nat) (hk : 1048577 < k) (o c s L : Int) (hL : -9223372036854775808 ≤ L ∧ L ≤ 9223372036854775807) : PGeomSpans.oakumlaw05_GeomPieces.f k o c s L = some true := by
  unfold PGeomSpans.oakumlaw05_GeomPieces.f
  have hbad : ∀ e : Int, e = 1 ∧ PGeomSpans.geom_Geom_Right.f o c = some false ∨ e = 2 → geom_Geom_Split.f o c s L = some ([], e) → ((geom_Geom_Split.f o c s L).bind fun bt132 => (if bt132.2 = 0 then (if L > 4000 then ((PGeomSpans.oakumlaw05_alive.f).bind fun t138 => (some t138)) else (PGeomSpans.oakumlaw05_GeomPieces.l0 k bt132.1 s 0 o c s L)) else ((PGeomSpans.oakumlaw05_alive.f).bind fun t136 => (if t136 = true then (if (bt132.1.length : Int) = 0 then (if bt132.2 = 1 then ((PGeomSpans.geom_Geom_Right.f o c).bind fun t137 => (if t137 = true then (some (bt132.2 == 2)) else (some true))) else (some (bt132.2 == 2))) else (some false)) else (some false))))) = some true := by
    intro e he h
    rw [h, PGeomSpans.oakumlaw05_alive.yes]
    simp only [Option.bind_some, if_true, List.length_nil]
    rcases he with ⟨rfl, hr⟩ | rfl
    · rw [if_neg (by omega), if_pos (by rfl), if_pos rfl, hr]; rfl
    · rw [if_neg (by omega), if_pos (by rfl), if_neg (by omega)]; rfl
  by_cases hr : 1 ≤ o ∧ o ≤ 1048576 ∧ 1 ≤ c ∧ c ≤ 128
  · obtain ⟨h1, h2, h3, h4⟩ := hr
    have hry := right_yes o c h1 h2 h3 h4
    by_cases q1 : s < 0
    · exact hbad 2 (.inr rfl) (by unfold geom_Geom_Split.f; rw [hry]; simp only [Option.bind_some, if_true]; rw [if_pos q1])
    · by_cases q2 : L < 0
      · exact hbad 2 (.inr rfl) (by unfold geom_Geom_Split.f; rw [hry]; simp only [Option.bind_some, if_true]; rw [if_neg q1, if_pos q2])
      · by_cases q3 : s > o
        · exact hbad 2 (.inr rfl) (by unfold geom_Geom_Split.f; rw [hry]; simp only [Option.bind_some, if_true]; rw [if_neg q1, if_neg q2, if_pos q3])
        · by_cases q4 : L > o - s
          · exact hbad 2 (.inr rfl) (by unfold geom_Geom_Split.f; rw [hry]; simp only [Option.bind_some, if_true]; rw [if_neg q1, if_neg q2, if_neg q3, if_pos q4])
          · have hok : geom_Geom_Split.f o c s L = some (piecesF c.toNat L.toNat s.toNat L.toNat, 0) := by
              unfold geom_Geom_Split.f; rw [hry]; simp only [Option.bind_some, if_true]; rw [if_neg q1, if_neg q2, if_neg q3, if_neg q4]
            rw [hok]
            simp only [Option.bind_some, if_true]
            split
            · rw [PGeomSpans.oakumlaw05_alive.yes]; rfl
            · obtain ⟨o, rfl⟩ := Int.eq_ofNat_of_zero_le (show 0 ≤ o by omega)
              obtain ⟨c, rfl⟩ := Int.eq_ofNat_of_zero_le (show 0 ≤ c by omega)
              obtain ⟨s, rfl⟩ := Int.eq_ofNat_of_zero_le (show 0 ≤ s by omega)
              obtain ⟨L, rfl⟩ := Int.eq_ofNat_of_zero_le (show 0 ≤ L by omega)
              simp only [Int.toNat_natCast]
              have hlen := pieces_len c (by omega) L s L
              exact pieces_l o c s L (by omega) (by omega) (by omega) (by omega) (by omega) _ (by omega) L k 0 s L rfl (Nat.le_refl _) rfl (.inl rfl) (by omega) (by omega)
  · refine hbad 1 (.inl ⟨rfl, right_no o c hr⟩) ?_
    unfold geom_Geom_Split.f
    rw [right_no o c hr]
    rfl

theorem GeomPieces_walk (a b d e : Int) (wa : (Lit.int .i64 a).wf = true) (wb : (Lit.int .i64 b).wf = true) (wd : (Lit.int .i64 d).wf = true) (we : (Lit.int .i64 e).wf = true) (w : World) :
    Calls Try.prog 4 #[.agg #[.int .i64 a, .int .i64 b], .agg #[.int .i64 d, .int .i64 e]] w fun e w' => e = .returned (.bool true) ∧ Below w.heap.size w w' := by
  refine PGeomSpans.oakumlaw05_GeomPieces.calls 1048578 a b d e true w (Aside0.mk rfl) ?_
  generalize hk : 1048578 = k
  exact pieces_main k (by omega) a b d e (bounds_i64 we)

end Go.Proofs.Ytfkbcldeohblpaa
