/- Plain laws on the printed functions of geom and of its reference: chunks, spans, pieces. -/
import Derived.Test.YtfkbcldeohblpaaGAlive
namespace Go.Proofs.Ytfkbcldeohblpaa
set_option linter.unusedVariables false
set_option linter.unusedSimpArgs false
set_option linter.unusedSimpArgs false
open Go.RowKit Go.Proofs.YtfkbcldeohblpaaW.PrintWords Go.Proofs.YtfkbcldeohblpaaW.PrintLast
open PGeomSpans (S43 S94 rd_T94 rd_T43)

theorem ref_right (o c : Int) : PGeomSpans.oakumref05_Right.f o c = PGeomSpans.geom_Geom_Right.f o c := rfl

/-- The number of chunks. -/
def chunksN (o c : Nat) : Nat := (o + c - 1) / c

theorem chunks_le (o c i : Nat) (hc : 1 ≤ c) : i < chunksN o c ↔ i * c < o := by
  unfold chunksN
  rw [Nat.lt_iff_add_one_le, Nat.le_div_iff_mul_le (by omega), Nat.add_mul]
  omega

theorem chunksN_le (o c : Nat) (hc : 1 ≤ c) : chunksN o c ≤ o := by
  apply Decidable.byContradiction
  intro h
  have h1 := (chunks_le o c o hc).1 (by omega)
  have := Nat.le_mul_of_pos_right o hc
  omega

theorem chunks_eq (o c : Nat) (h1 : 1 ≤ o) (h2 : o ≤ 1048576) (h3 : 1 ≤ c) (h4 : c ≤ 128) : PGeomSpans.geom_Geom_Chunks.f o c = some ((chunksN o c : Nat) : Int) := by
  unfold PGeomSpans.geom_Geom_Chunks.f
  rw [right_yes o c (by omega) (by omega) (by omega) (by omega)]
  simp only [Option.bind_some, if_true]
  rw [up_eq o c (by omega) (by omega) (by omega) (by omega)]
  simp only [Option.bind_some]
  unfold chunksN
  congr 1
  rw [show ((o : Int) + (c : Int) - 1) = ((o + c - 1 : Nat) : Int) by omega]
  rfl

theorem ref_chunks_l (o c : Nat) (h1 : 1 ≤ o) (h2 : o ≤ 1048576) (h3 : 1 ≤ c) (h4 : c ≤ 128) (d : Nat) : ∀ (k i : Nat), chunksN o c = i + d → d < k →
    PGeomSpans.oakumref05_Chunks.l0 k o c i = some ((chunksN o c : Nat) : Int) := by
  have hq := chunksN_le o c h3
  induction d with
  | zero =>
    intro k i hd hk
    obtain ⟨k, rfl⟩ : ∃ m, k = m + 1 := ⟨k - 1, by omega⟩
    simp only [PGeomSpans.oakumref05_Chunks.l0]
    have hn := (not_congr (chunks_le o c i h3)).1 (by omega)
    have hm : i * c ≤ 1048576 * 128 := Nat.mul_le_mul (by omega) h4
    have e : wrap64 ((i : Int) * (c : Int)) = ((i * c : Nat) : Int) := by push_cast; rw [show (i : Int) * (c : Int) = ((i * c : Nat) : Int) by push_cast; rfl]; unfold wrap64; omega
    rw [e, if_neg (by omega)]
    congr 1
    omega
  | succ d ih =>
    intro k i hd hk
    obtain ⟨k, rfl⟩ : ∃ m, k = m + 1 := ⟨k - 1, by omega⟩
    simp only [PGeomSpans.oakumref05_Chunks.l0]
    have hn := (chunks_le o c i h3).1 (by omega)
    have e : wrap64 ((i : Int) * (c : Int)) = ((i * c : Nat) : Int) := by rw [show (i : Int) * (c : Int) = ((i * c : Nat) : Int) by push_cast; rfl]; unfold wrap64; omega
    rw [e, if_pos (by omega)]
    have e2 : wrap64 ((i : Int) + 1) = ((i + 1 : Nat) : Int) := by unfold wrap64; omega
    rw [e2]
    exact ih k (i + 1) (by omega) (by omega)

theorem ref_chunks (o c : Nat) (k : Nat) (h1 : 1 ≤ o) (h2 : o ≤ 1048576) (h3 : 1 ≤ c) (h4 : c ≤ 128) (hk : 1048576 < k) :
    PGeomSpans.oakumref05_Chunks.f k o c = some ((chunksN o c : Nat) : Int) := by
  unfold PGeomSpans.oakumref05_Chunks.f
  rw [ref_right, right_yes o c (by omega) (by omega) (by omega) (by omega)]
  simp only [Option.bind_some, if_true]
  exact ref_chunks_l o c h1 h2 h3 h4 (chunksN o c) k 0 (by omega) (by have := chunksN_le o c h3; omega)

theorem right_no (o c : Int) (h : ¬ (1 ≤ o ∧ o ≤ 1048576 ∧ 1 ≤ c ∧ c ≤ 128)) : PGeomSpans.geom_Geom_Right.f o c = some false := by
  rw [right_iff]; congr 1; exact decide_eq_false h

/-- Chunks, as the reference has them, at every geometry. -/
theorem ref_chunks_any (o c : Int) (k : Nat) (hk : 1048576 < k) : PGeomSpans.oakumref05_Chunks.f k o c = PGeomSpans.geom_Geom_Chunks.f o c := by
  by_cases hr : 1 ≤ o ∧ o ≤ 1048576 ∧ 1 ≤ c ∧ c ≤ 128
  · obtain ⟨h1, h2, h3, h4⟩ := hr
    obtain ⟨o, rfl⟩ := Int.eq_ofNat_of_zero_le (show 0 ≤ o by omega)
    obtain ⟨c, rfl⟩ := Int.eq_ofNat_of_zero_le (show 0 ≤ c by omega)
    rw [ref_chunks o c k (by omega) (by omega) (by omega) (by omega) hk, chunks_eq o c (by omega) (by omega) (by omega) (by omega)]
  · unfold PGeomSpans.oakumref05_Chunks.f PGeomSpans.geom_Geom_Chunks.f
    rw [ref_right, right_no o c hr]
    rfl

theorem ref_span_any (o c n : Int) (k : Nat) (hk : 1048576 < k) : PGeomSpans.oakumref05_Span.f k o c n = PGeomSpans.geom_Geom_Span.f o c n := by
  unfold PGeomSpans.oakumref05_Span.f PGeomSpans.geom_Geom_Span.f
  rw [ref_right, ref_chunks_any o c k hk]

/-! Pieces, sector by sector. -/
def conv (p : S43) : S94 := ⟨p.f0, p.f1, p.f2⟩

/-- One sector more. -/
def stepL (c s i : Nat) (l : List S94) : List S94 :=
  if i = 0 ∨ (s + i) % c = 0 then l ++ [⟨((s + i) / c : Nat), ((s + i) % c : Nat), 1⟩]
  else l.set (l.length - 1) ⟨(rd_T94 l (l.length - 1 : Nat)).f0, (rd_T94 l (l.length - 1 : Nat)).f1, (rd_T94 l (l.length - 1 : Nat)).f2 + 1⟩

theorem stepL_cons (c s s' i i' : Nat) (x : S94) (l : List S94) (hi : i ≠ 0) (hi' : i' ≠ 0) (hs : s + i = s' + i') (hl : l ≠ []) : stepL c s i (x :: l) = x :: stepL c s' i' l := by
  unfold stepL
  rw [hs]
  have hlen : 1 ≤ l.length := by cases l with | nil => exact absurd rfl hl | cons => simp
  by_cases h : (s' + i') % c = 0
  · rw [if_pos (.inr h), if_pos (.inr h)]; rfl
  · rw [if_neg (by rintro (h' | h') <;> contradiction), if_neg (by rintro (h' | h') <;> contradiction)]
    obtain ⟨m, hm⟩ : ∃ m, l.length = m + 1 := ⟨l.length - 1, by omega⟩
    simp only [List.length_cons, hm, Nat.add_sub_cancel, rd_T94, Int.toNat_natCast, List.set_cons_succ, List.getD_cons_succ]

theorem piece1_f (c s n : Nat) (hc : 1 ≤ c) : conv (piece1 c s n) = ⟨(s / c : Nat), (s % c : Nat), (pieceN c s n : Nat)⟩ := by
  have hm : s % c < c := Nat.mod_lt _ (by omega)
  unfold conv piece1 pieceN
  rw [show (s : Int) % (c : Int) = ((s % c : Nat) : Int) by push_cast; rfl, show (s : Int) / (c : Int) = ((s / c : Nat) : Int) by push_cast; rfl]
  by_cases h : c - s % c < n
  · rw [if_pos h, if_pos (by omega)]
    rw [show (c : Int) - ((s % c : Nat) : Int) = ((c - s % c : Nat) : Int) by omega]
  · rw [if_neg h, if_neg (by omega)]

/-- The pieces of one sector more. -/
theorem pieces_snoc (c : Nat) (hc : 1 ≤ c) (n : Nat) : ∀ (s k k' : Nat), n ≤ k → n + 1 ≤ k' → (piecesF c k' s (n + 1)).map conv = stepL c s n ((piecesF c k s n).map conv) := by
  induction n using Nat.strongRecOn with
  | _ n ih =>
    intro s k k' hk hk'
    obtain ⟨k', rfl⟩ : ∃ m, k' = m + 1 := ⟨k' - 1, by omega⟩
    have hm : s % c < c := Nat.mod_lt _ (by omega)
    by_cases h0 : n = 0
    · subst h0
      have e0 : piecesF c k s 0 = [] := by cases k <;> simp [piecesF]
      have e1 : pieceN c s 1 = 1 := by unfold pieceN; split <;> omega
      have e2 : ∀ m a, piecesF c m a 0 = [] := by intro m a; cases m <;> simp [piecesF]
      rw [e0]
      simp only [piecesF, Nat.zero_add, if_neg (show ¬ (1 = 0) by omega), List.map_cons, piece1_f c s 1 hc, e1, Nat.sub_self, e2, List.map_nil, stepL, true_or, if_true, Nat.add_zero, List.nil_append]
      rfl
    · obtain ⟨k, rfl⟩ : ∃ m, k = m + 1 := ⟨k - 1, by omega⟩
      simp only [piecesF, if_neg h0, if_neg (show ¬ (n + 1 = 0) by omega), List.map_cons, piece1_f c s _ hc]
      by_cases h1 : c - s % c < n
      · have e1 : pieceN c s n = c - s % c := by unfold pieceN; rw [if_pos h1]
        have e2 : pieceN c s (n + 1) = c - s % c := by unfold pieceN; rw [if_pos (by omega)]
        rw [e1, e2]
        have hne : (piecesF c k (s + (c - s % c)) (n - (c - s % c))).map conv ≠ [] := by
          obtain ⟨k2, rfl⟩ : ∃ m, k = m + 1 := ⟨k - 1, by omega⟩
          simp [piecesF, show ¬ (n - (c - s % c) = 0) by omega]
        rw [stepL_cons c s (s + (c - s % c)) n (n - (c - s % c)) _ _ h0 (by omega) (by omega) hne]
        congr 1
        rw [show n + 1 - (c - s % c) = (n - (c - s % c)) + 1 by omega]
        exact ih (n - (c - s % c)) (by omega) _ k k' (by omega) (by omega)
      · have e1 : pieceN c s n = n := by unfold pieceN; rw [if_neg h1]
        have e3 : ∀ m a, piecesF c m a 0 = [] := by intro m a; cases m <;> simp [piecesF]
        rw [e1, Nat.sub_self, e3]
        by_cases h2 : c - s % c = n
        · have e2 : pieceN c s (n + 1) = n := by unfold pieceN; rw [if_pos (by omega)]; exact h2
          have hz : (s + n) % c = 0 := by
            have hd := Nat.div_add_mod s c
            have : s + n = c * (s / c + 1) := by rw [Nat.mul_add]; omega
            rw [this]; exact Nat.mul_mod_right _ _
          rw [e2, show n + 1 - n = 0 + 1 by omega]
          have := ih 0 (by omega) (s + n) 0 k' (by omega) (by omega)
          rw [this]
          simp only [piecesF, List.map_nil, stepL, true_or, if_true, hz, or_true, List.nil_append, Nat.add_zero, List.cons_append]
        · have e2 : pieceN c s (n + 1) = n + 1 := by unfold pieceN; rw [if_neg (by omega)]
          have hz : ¬ ((s + n) % c = 0) := by
            have : (s + n) % c = s % c + n := by
              rw [Nat.add_mod, Nat.mod_eq_of_lt (show n < c by omega)]
              exact Nat.mod_eq_of_lt (by omega)
            omega
          rw [e2, Nat.sub_self, e3]
          simp only [List.map_nil, stepL]
          rw [if_neg (by rintro (h' | h') <;> contradiction)]
          simp [rd_T94]

theorem pieces_len (c : Nat) (hc : 1 ≤ c) : ∀ (k s n : Nat), (piecesF c k s n).length ≤ n := by
  intro k
  induction k with
  | zero => intro s n; simp [piecesF]
  | succ k ih =>
    intro s n
    unfold piecesF
    split
    · simp
    · have := ih (s + pieceN c s n) (n - pieceN c s n)
      have hp : 1 ≤ pieceN c s n := by unfold pieceN; have : s % c < c := Nat.mod_lt _ (by omega); split <;> omega
      simp only [List.length_cons]
      omega

theorem pieces_f2 (c : Nat) (hc : 1 ≤ c) : ∀ (k s n : Nat), ∀ p ∈ piecesF c k s n, 1 ≤ p.f2 ∧ p.f2 ≤ n := by
  intro k
  induction k with
  | zero => intro s n p hp; simp [piecesF] at hp
  | succ k ih =>
    intro s n p hp
    unfold piecesF at hp
    split at hp
    · simp at hp
    · have hn : pieceN c s n ≤ n := by unfold pieceN; split <;> omega
      have h1 : 1 ≤ pieceN c s n := by unfold pieceN; have : s % c < c := Nat.mod_lt _ (by omega); split <;> omega
      rcases List.mem_cons.1 hp with rfl | hp
      · have := congrArg S94.f2 (piece1_f c s n hc)
        simp only [conv] at this
        omega
      · have := ih _ _ p hp
        omega

theorem wrap64_nat (q : Nat) (h : q ≤ 9223372036854775807) : wrap64 (q : Int) = (q : Int) := by unfold wrap64; omega

theorem getLast_rd (l : List S94) (h : l ≠ []) : rd_T94 l (l.length - 1 : Nat) ∈ l := by
  have hl : 1 ≤ l.length := by cases l with | nil => exact absurd rfl h | cons => simp
  unfold rd_T94
  rw [Int.toNat_natCast, List.getD_eq_getElem?_getD, List.getElem?_eq_getElem (by omega)]
  exact List.getElem_mem _

/-- The reference's rounds. -/
theorem ref_split_l (c s L : Nat) (hc : 1 ≤ c) (hc2 : c ≤ 128) (hs : s + L ≤ 1048576) (d : Nat) : ∀ (k i : Nat), i + d = L → d < k →
    PGeomSpans.oakumref05_Split.l0 k c ((piecesF c i s i).map conv) i s L = some ((piecesF c L s L).map conv, 0) := by
  induction d with
  | zero =>
    intro k i hd hk
    obtain ⟨k, rfl⟩ : ∃ m, k = m + 1 := ⟨k - 1, by omega⟩
    obtain rfl : i = L := by omega
    simp only [PGeomSpans.oakumref05_Split.l0]
    rw [if_neg (by omega)]
  | succ d ih =>
    intro k i hd hk
    obtain ⟨k, rfl⟩ : ∃ m, k = m + 1 := ⟨k - 1, by omega⟩
    have hst := pieces_snoc c hc i s i (i + 1) (Nat.le_refl _) (Nat.le_refl _)
    have hnext := ih k (i + 1) (by omega) (by omega)
    have hlen : ((piecesF c i s i).map conv).length ≤ i := by rw [List.length_map]; exact pieces_len c hc i s i
    have hf2 : ∀ p ∈ (piecesF c i s i).map conv, 1 ≤ p.f2 ∧ p.f2 ≤ i := by
      intro p hp
      obtain ⟨q, hq, rfl⟩ := List.mem_map.1 hp
      exact pieces_f2 c hc i s i q hq
    have hnil : i ≠ 0 → (piecesF c i s i).map conv ≠ [] := by
      intro h0
      obtain ⟨m, rfl⟩ : ∃ m, i = m + 1 := ⟨i - 1, by omega⟩
      simp [piecesF]
    rw [hst] at hnext
    generalize (piecesF c i s i).map conv = l at *
    have e1 : wrap64 ((s : Int) + (i : Int)) = ((s + i : Nat) : Int) := by unfold wrap64; omega
    have e2 : wrap64 ((i : Int) + 1) = ((i + 1 : Nat) : Int) := by unfold wrap64; omega
    have e3 : Int.tmod ((s + i : Nat) : Int) (c : Int) = (((s + i) % c : Nat) : Int) := by rw [Int.tmod_eq_emod_of_nonneg (by omega)]; rfl
    have hdl : (s + i) / c ≤ s + i := Nat.div_le_self _ _
    have e4 : wrap64 (Int.tdiv ((s + i : Nat) : Int) (c : Int)) = (((s + i) / c : Nat) : Int) := by
      rw [Int.tdiv_eq_ediv_of_nonneg (by omega), show ((s + i : Nat) : Int) / (c : Int) = (((s + i) / c : Nat) : Int) from rfl]; exact wrap64_nat _ (by omega)
    simp only [PGeomSpans.oakumref05_Split.l0, e1, e2, e3, e4]
    rw [if_pos (by omega)]
    by_cases h0 : i = 0
    · subst h0
      rw [if_neg (by omega), if_neg (by omega), if_pos (by omega)]
      rw [stepL, if_pos (.inl rfl)] at hnext
      exact hnext
    · rw [if_pos (by omega), if_neg (by omega)]
      by_cases hz : (s + i) % c = 0
      · rw [if_pos (by omega), if_pos (by omega)]
        rw [stepL, if_pos (.inr hz)] at hnext
        exact hnext
      · rw [if_neg (by omega)]
        have hl := hnil h0
        have hl1 : 1 ≤ l.length := by cases l with | nil => exact absurd rfl hl | cons => simp
        have e5 : wrap64 ((l.length : Int) - 1) = ((l.length - 1 : Nat) : Int) := by unfold wrap64; omega
        have hlast := hf2 _ (getLast_rd l hl)
        have e6 : wrap64 ((rd_T94 l (l.length - 1 : Nat)).f2 + 1) = (rd_T94 l (l.length - 1 : Nat)).f2 + 1 := by unfold wrap64; omega
        rw [stepL, if_neg (by rintro (h' | h') <;> contradiction)] at hnext
        rw [e5, if_pos (by omega), if_pos (by omega), Int.toNat_natCast, e6]
        exact hnext

/-- The two lists are told to be one. -/
theorem same_l (l : List S43) (hl : l.length ≤ 1048576) (d : Nat) : ∀ (k i : Nat), i + d = l.length → d < k → PGeomSpans.oakumlaw05_same.l0 k l (l.map conv) i = some true := by
  induction d with
  | zero =>
    intro k i hd hk
    obtain ⟨k, rfl⟩ : ∃ m, k = m + 1 := ⟨k - 1, by omega⟩
    simp only [PGeomSpans.oakumlaw05_same.l0]
    rw [if_neg (by omega)]
  | succ d ih =>
    intro k i hd hk
    obtain ⟨k, rfl⟩ : ∃ m, k = m + 1 := ⟨k - 1, by omega⟩
    have e2 : wrap64 ((i : Int) + 1) = ((i + 1 : Nat) : Int) := by unfold wrap64; omega
    have e3 : rd_T94 (l.map conv) (i : Int) = conv (rd_T43 l (i : Int)) := by
      unfold rd_T94 rd_T43
      rw [Int.toNat_natCast, List.getD_eq_getElem?_getD, List.getD_eq_getElem?_getD, List.getElem?_map, List.getElem?_eq_getElem (by omega)]
      rfl
    simp only [PGeomSpans.oakumlaw05_same.l0, e2, e3, List.length_map, conv]
    rw [if_pos (by omega), if_pos (by omega), if_pos (by omega), if_pos trivial, if_pos trivial, if_pos trivial]
    exact ih k (i + 1) (by omega) (by omega)

theorem same_conv (l : List S43) (hl : l.length ≤ 1048576) (k : Nat) (hk : 1048576 < k) : PGeomSpans.oakumlaw05_same.f k l (l.map conv) = some true := by
  unfold PGeomSpans.oakumlaw05_same.f
  rw [List.length_map, if_pos rfl]
  exact same_l l hl l.length k 0 (by omega) (by omega)

theorem same_nil (k : Nat) (hk : 1048576 < k) : PGeomSpans.oakumlaw05_same.f k [] [] = some true := same_conv [] (by simp) k hk

/-- The reference's pieces are the program's, at every geometry and numbers. -/
theorem ref_split_any (o c a n : Int) (k : Nat) (hk : 1048577 < k) (hn : -9223372036854775808 ≤ n ∧ n ≤ 9223372036854775807) :
    ∃ l e, geom_Geom_Split.f o c a n = some (l, e) ∧ PGeomSpans.oakumref05_Split.f k o c a n = some (l.map conv, e) ∧ l.length ≤ 1048576 := by
  obtain ⟨k, rfl⟩ : ∃ m, k = m + 1 := ⟨k - 1, by omega⟩
  unfold geom_Geom_Split.f PGeomSpans.oakumref05_Split.f
  rw [ref_right, right_iff]
  simp only [Option.bind_some, decide_eq_true_eq]
  by_cases hr : 1 ≤ o ∧ o ≤ 1048576 ∧ 1 ≤ c ∧ c ≤ 128
  · rw [if_pos hr, if_pos hr]
    obtain ⟨h1, h2, h3, h4⟩ := hr
    have hbad : PGeomSpans.oakumref05_Split.j0 (k + 1) c true a n = some ([], 2) := by simp only [PGeomSpans.oakumref05_Split.j0]; rfl
    by_cases q1 : a < 0
    · rw [if_pos q1, if_pos q1]; exact ⟨[], 2, rfl, hbad, by simp⟩
    · rw [if_neg q1, if_neg q1]
      by_cases q2 : n < 0
      · rw [if_pos q2, if_pos q2]; exact ⟨[], 2, rfl, hbad, by simp⟩
      · rw [if_neg q2, if_neg q2]
        by_cases q3 : a > o
        · rw [if_pos q3, if_pos q3]; exact ⟨[], 2, rfl, hbad, by simp⟩
        · rw [if_neg q3, if_neg q3]
          have e1 : wrap64 (o - a) = o - a := by unfold wrap64; omega
          rw [e1]
          by_cases q4 : n > o - a
          · rw [if_pos q4, decide_eq_true q4]; exact ⟨[], 2, rfl, hbad, by simp⟩
          · rw [if_neg q4, decide_eq_false q4]
            obtain ⟨o, rfl⟩ := Int.eq_ofNat_of_zero_le (show 0 ≤ o by omega)
            obtain ⟨c, rfl⟩ := Int.eq_ofNat_of_zero_le (show 0 ≤ c by omega)
            obtain ⟨a, rfl⟩ := Int.eq_ofNat_of_zero_le (show 0 ≤ a by omega)
            obtain ⟨n, rfl⟩ := Int.eq_ofNat_of_zero_le (show 0 ≤ n by omega)
            simp only [Int.toNat_natCast, PGeomSpans.oakumref05_Split.j0]
            refine ⟨_, 0, rfl, ?_, Nat.le_trans (pieces_len c (by omega) n a n) (by omega)⟩
            have := ref_split_l c a n (by omega) (by omega) (by omega) n k 0 (by omega) (by omega)
            simpa [piecesF] using this
  · rw [if_neg hr, if_neg hr]
    exact ⟨[], 1, rfl, rfl, by simp⟩

end Go.Proofs.Ytfkbcldeohblpaa
