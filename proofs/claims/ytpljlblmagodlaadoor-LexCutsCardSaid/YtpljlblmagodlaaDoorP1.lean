/-
  The plain law of LexCuts, part 1: characters.
-/
import Derived.Test.YtpljlblmagodlaaDoorW28
set_option linter.unusedVariables false
set_option linter.unusedSimpArgs false
set_option linter.unusedSimpArgs false
set_option maxRecDepth 100000
set_option maxHeartbeats 4000000
namespace Go.Proofs.Tryd
open Go Go.AL
theorem atB_lt (l : List UInt8) (k : Nat) : atB l k < 256 := (l.getD k 0).toNat_lt
theorem atB_append {x u : List UInt8} {k : Nat} (h : k < x.length) : atB (x ++ u) k = atB x k := by
  simp [atB, List.getD, List.getElem?_append, h]
theorem atB_take {y : List UInt8} {m k : Nat} (h : k < m) : atB (y.take m) k = atB y k := by
  simp [atB, List.getD, List.getElem?_take, h]
/-- What stands of a character's bytes: so many are looked at, and they make one. -/
inductive DecV (l : List UInt8) : Nat → Nat → Prop
  | one (h : atB l 0 < 128) : DecV l (atB l 0) 1
  | two (h : 2 ≤ l.length) (h0 : 194 ≤ atB l 0 ∧ atB l 0 ≤ 223) (h1 : 128 ≤ atB l 1 ∧ atB l 1 ≤ 191) : DecV l ((atB l 0 % 32) * 64 + atB l 1 % 64) 2
  | three (h : 3 ≤ l.length) (h0 : 224 ≤ atB l 0 ∧ atB l 0 ≤ 239) (h1 : 128 ≤ atB l 1 ∧ atB l 1 ≤ 191) (h2 : 128 ≤ atB l 2 ∧ atB l 2 ≤ 191) (h3 : atB l 0 = 224 → 160 ≤ atB l 1) (h4 : atB l 0 = 237 → atB l 1 ≤ 159) :
      DecV l ((atB l 0 % 16) * 4096 + (atB l 1 % 64) * 64 + atB l 2 % 64) 3
  | four (h : 4 ≤ l.length) (h0 : 240 ≤ atB l 0 ∧ atB l 0 ≤ 244) (h1 : 128 ≤ atB l 1 ∧ atB l 1 ≤ 191) (h2 : 128 ≤ atB l 2 ∧ atB l 2 ≤ 191) (h3 : 128 ≤ atB l 3 ∧ atB l 3 ≤ 191) (h4 : atB l 0 = 240 → 144 ≤ atB l 1) (h5 : atB l 0 = 244 → atB l 1 ≤ 143) :
      DecV l ((atB l 0 % 8) * 262144 + (atB l 1 % 64) * 4096 + (atB l 2 % 64) * 64 + atB l 3 % 64) 4
theorem contB_iff {l : List UInt8} {k : Nat} : contB l k = true ↔ k < l.length ∧ 128 ≤ atB l k ∧ atB l k ≤ 191 := by
  simp only [contB, Bool.and_eq_true, decide_eq_true_eq, beq_iff_eq]
  constructor
  · rintro ⟨h1, h2⟩; exact ⟨h1, by omega, by omega⟩
  · rintro ⟨h1, h2, h3⟩; exact ⟨h1, by omega⟩
/-- Either a character's bytes stand there, or a bad byte does. -/
theorem dec_cases (l : List UInt8) : DecV l (dec l).1 (dec l).2 ∨ (dec l = (65533, 1) ∧ 128 ≤ atB l 0 ∧ ∀ c n, ¬ DecV l c n) := by
  have b0 := atB_lt l 0
  have b1 := atB_lt l 1
  have b2 := atB_lt l 2
  have b3 := atB_lt l 3
  have bad : dec l = (65533, 1) → 128 ≤ atB l 0 → (∀ c n, ¬ DecV l c n) → DecV l (dec l).1 (dec l).2 ∨ (dec l = (65533, 1) ∧ 128 ≤ atB l 0 ∧ ∀ c n, ¬ DecV l c n) := fun h h' k => .inr ⟨h, h', k⟩
  have hd := dec.eq_1 l
  simp only at hd
  split at hd
  · left; rw [hd]; exact .one (by assumption)
  · rename_i h0
    split at hd
    · rename_i h1
      simp only [Bool.and_eq_true, beq_iff_eq, contB_iff] at h1
      split at hd
      · left; rw [hd]; exact .two (by omega) (by omega) (by omega)
      · refine bad hd (by omega) ?_
        intro c n hv
        cases hv <;> omega
    · rename_i h1
      simp only [Bool.and_eq_true, beq_iff_eq, contB_iff] at h1
      split at hd
      · rename_i h2
        simp only [Bool.and_eq_true, beq_iff_eq, contB_iff] at h2
        split at hd
        · rename_i h3
          simp only [Bool.and_eq_true, decide_eq_true_eq, Utf8.valid, Bool.or_eq_true] at h3
          left; rw [hd]; exact .three (by omega) (by omega) (by omega) (by omega) (by omega) (by omega)
        · rename_i h3
          simp only [Bool.and_eq_true, decide_eq_true_eq, Utf8.valid, Bool.or_eq_true] at h3
          refine bad hd (by omega) ?_
          intro c n hv
          cases hv <;> omega
      · rename_i h2
        simp only [Bool.and_eq_true, beq_iff_eq, contB_iff] at h2
        split at hd
        · rename_i h3
          simp only [Bool.and_eq_true, beq_iff_eq, contB_iff] at h3
          split at hd
          · rename_i h4
            simp only [Bool.and_eq_true, decide_eq_true_eq, Utf8.valid, Bool.or_eq_true] at h4
            left; rw [hd]; exact .four (by omega) (by omega) (by omega) (by omega) (by omega) (by omega) (by omega)
          · rename_i h4
            simp only [Bool.and_eq_true, decide_eq_true_eq, Utf8.valid, Bool.or_eq_true] at h4
            refine bad hd (by omega) ?_
            intro c n hv
            cases hv <;> omega
        · rename_i h3
          simp only [Bool.and_eq_true, beq_iff_eq, contB_iff] at h3
          refine bad hd (by omega) ?_
          intro c n hv
          cases hv <;> omega
theorem DecV.uniq {l : List UInt8} {c n c' n' : Nat} (h : DecV l c n) (h' : DecV l c' n') : c = c' ∧ n = n' := by
  cases h <;> cases h' <;> first | exact ⟨rfl, rfl⟩ | omega
theorem DecV.dec {l : List UInt8} {c n : Nat} (h : DecV l c n) : dec l = (c, n) := by
  rcases dec_cases l with h1 | ⟨_, _, h1⟩
  · obtain ⟨e1, e2⟩ := h1.uniq h
    rw [← e1, ← e2]
  · exact absurd h (h1 c n)
/-- What is looked at is the same. -/
theorem DecV.same {l l' : List UInt8} {c n : Nat} (h : DecV l c n) (hl : n ≤ l'.length) (hs : ∀ k, k < n → atB l' k = atB l k) : DecV l' c n := by
  cases h with
  | one h =>
    have e0 := hs 0 (by omega)
    rw [← e0]; exact .one (by rw [e0]; exact h)
  | two h h0 h1 =>
    have e0 := hs 0 (by omega); have e1 := hs 1 (by omega)
    rw [← e0, ← e1]
    exact .two hl (by rw [e0]; exact h0) (by rw [e1]; exact h1)
  | three h h0 h1 h2 h3 h4 =>
    have e0 := hs 0 (by omega); have e1 := hs 1 (by omega); have e2 := hs 2 (by omega)
    rw [← e0, ← e1, ← e2]
    exact .three hl (by rw [e0]; exact h0) (by rw [e1]; exact h1) (by rw [e2]; exact h2) (by rw [e0, e1]; exact h3) (by rw [e0, e1]; exact h4)
  | four h h0 h1 h2 h3 h4 h5 =>
    have e0 := hs 0 (by omega); have e1 := hs 1 (by omega); have e2 := hs 2 (by omega); have e3 := hs 3 (by omega)
    rw [← e0, ← e1, ← e2, ← e3]
    exact .four hl (by rw [e0]; exact h0) (by rw [e1]; exact h1) (by rw [e2]; exact h2) (by rw [e3]; exact h3) (by rw [e0, e1]; exact h4) (by rw [e0, e1]; exact h5)
/-- A character's bytes, cut off behind it. -/
theorem dec_take {y : List UInt8} {m : Nat} (h0 : 0 < y.length) (hm : (dec y).2 ≤ m) : dec (y.take m) = dec y := by
  have hp := dec_pos y
  have hl := dec_le h0
  rcases dec_cases y with h | ⟨h, h1, h2⟩
  · exact (h.same (by simp; omega) fun k hk => atB_take (by omega)).dec
  · rcases dec_cases (y.take m) with h3 | ⟨h3, _⟩
    · exfalso
      have hle := dec_le (l := y.take m) (by simp; omega)
      rw [List.length_take] at hle
      exact h2 _ _ (h3.same (by omega) fun k hk => (atB_take (by omega)).symm)
    · rw [h3, h]
/-- What comes behind can't turn a character that is whole. -/
theorem dec_more {x u : List UInt8} (h0 : 0 < x.length) (h : (dec (x ++ u)).2 ≤ x.length) : dec (x ++ u) = dec x := by
  have := dec_take (y := x ++ u) (m := x.length) (by simp; omega) h
  rw [List.take_left] at this
  exact this.symm
theorem fV2 {i : Nat} (h : 194 ≤ i ∧ i ≤ 223) : firstV i = 2 := by
  unfold firstV; rw [if_neg (by omega), if_neg (by omega), if_pos (by omega)]
theorem fV3 {i : Nat} (h : 224 ≤ i ∧ i ≤ 239) : (firstV i = 19 ∧ i = 224) ∨ (firstV i = 35 ∧ i = 237) ∨ (firstV i = 3 ∧ i ≠ 224 ∧ i ≠ 237) := by
  unfold firstV
  rw [if_neg (by omega), if_neg (by omega), if_neg (by omega)]
  by_cases h1 : i = 224
  · left; rw [if_pos h1]; exact ⟨rfl, h1⟩
  · rw [if_neg h1]
    by_cases h2 : i = 237
    · right; left; rw [if_pos h2]; exact ⟨rfl, h2⟩
    · right; right; rw [if_neg h2, if_pos (by omega)]; exact ⟨rfl, h1, h2⟩
theorem fV4 {i : Nat} (h : 240 ≤ i ∧ i ≤ 244) : (firstV i = 52 ∧ i = 240) ∨ (firstV i = 68 ∧ i = 244) ∨ (firstV i = 4 ∧ i ≠ 240 ∧ i ≠ 244) := by
  unfold firstV
  rw [if_neg (by omega), if_neg (by omega), if_neg (by omega), if_neg (by omega), if_neg (by omega), if_neg (by omega)]
  by_cases h1 : i = 240
  · left; rw [if_pos h1]; exact ⟨rfl, h1⟩
  · rw [if_neg h1]
    by_cases h2 : i = 244
    · right; left; rw [if_neg (by omega), if_pos h2]; exact ⟨rfl, h2⟩
    · right; right; rw [if_pos (by omega)]; exact ⟨rfl, h1, h2⟩
theorem fV1 {i : Nat} (h : i < 194) : firstV i % 8 ≤ 1 := by
  unfold firstV
  by_cases h1 : i < 128
  · rw [if_pos h1]; decide
  · rw [if_neg h1, if_pos h]; decide
/-- An open end is none that is full. -/
theorem full_open {x u : List UInt8} (h0 : 0 < x.length) (h : x.length < (dec (x ++ u)).2) : fullR x = false := by
  have hv : DecV (x ++ u) (dec (x ++ u)).1 (dec (x ++ u)).2 := by
    rcases dec_cases (x ++ u) with hv | ⟨e, _⟩
    · exact hv
    · rw [e] at h; simp only at h; omega
  have e : ∀ k, k < x.length → atB (x ++ u) k = atB x k := fun k hk => atB_append hk
  have e0 := e 0 h0
  generalize (dec (x ++ u)).1 = c at hv
  generalize hn : (dec (x ++ u)).2 = n at hv h
  unfold fullR
  rw [if_neg (by omega)]
  cases hv with
  | one h1 => omega
  | two h1 h2 h3 =>
    have hf := fV2 (i := atB x 0) (by omega)
    rw [hf, if_neg (by omega), if_neg (by omega)]
    exact decide_eq_false (by omega)
  | three h1 h2 h3 h4 h5 h6 =>
    have hf := fV3 (i := atB x 0) (by omega)
    have e1 := e 1
    have e2 := e 2
    rcases hf with ⟨hf, hb⟩ | ⟨hf, hb⟩ | ⟨hf, hb⟩
    all_goals
      rw [hf, if_neg (by omega), if_neg (by simp [acceptT]; omega)]
      exact decide_eq_false (by omega)
  | four h1 h2 h3 h4 h5 h6 h7 =>
    have hf := fV4 (i := atB x 0) (by omega)
    have e1 := e 1
    have e2 := e 2
    rcases hf with ⟨hf, hb⟩ | ⟨hf, hb⟩ | ⟨hf, hb⟩
    all_goals
      rw [hf, if_neg (by omega), if_neg (by simp [acceptT]; omega)]
      exact decide_eq_false (by omega)
theorem full_lead {x : List UInt8} (h0 : 0 < x.length) (h : fullR x = false) : 194 ≤ atB x 0 := by
  have b0 := atB_lt x 0
  unfold fullR at h
  rw [if_neg (by omega)] at h
  split at h
  · cases h
  · rename_i h1
    rcases Nat.lt_or_ge (atB x 0) 194 with h2 | h2
    · exfalso
      have hf := fV1 h2
      omega
    · exact h2
end Go.Proofs.Tryd
