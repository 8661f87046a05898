/-
  Walks of the seat of LexCuts, part 20: what stays so of a lexer.
-/
import Derived.Test.YtpljlblmagodlaaDoorW19
set_option linter.unusedVariables false
set_option linter.unusedSimpArgs false
set_option linter.unusedSimpArgs false
set_option maxRecDepth 100000
set_option maxHeartbeats 4000000
namespace Go.Proofs.Tryd
open Go Go.AL
/-- What stays so: so many tokens, so many line ends at most. -/
structure LexS.OK (s : LexS) (T D : Nat) : Prop where
  st0 : s.state = 0 → s.held = []
  held : s.held.length ≤ 65535
  toks : s.toks.length ≤ T
  feeds : s.feeds ≤ D
theorem LexS.OK.fail {s : LexS} {T D : Nat} (h : s.OK T D) (e : Nat) (p : Pl) : (s.fail e p).OK T D := ⟨h.1, h.2, h.3, h.4⟩
theorem LexS.OK.tell {s : LexS} {T D : Nat} (h : s.OK T D) (kd : Nat) : (s.tell kd).OK (T + 1) 0 := ⟨fun _ => rfl, by simp [LexS.tell], by have := h.toks; simp [LexS.tell]; omega, Nat.le_refl _⟩
theorem LexS.OK.le {s : LexS} {T D T' D' : Nat} (h : s.OK T D) (h1 : T ≤ T') (h2 : D ≤ D') : s.OK T' D' := ⟨h.1, h.2, Nat.le_trans h.3 h1, Nat.le_trans h.4 h2⟩
theorem LexS.OK.more {s : LexS} {T D : Nat} (h : s.OK T D) (h0 : s.state ≠ 0) (b : List UInt8) : (s.more b).OK T D := by
  unfold LexS.more
  split
  · exact ⟨fun e => absurd e h0, by simpa using by assumption, h.3, h.4⟩
  · exact h.fail _ _
theorem LexS.OK.go {s : LexS} {T D : Nat} (h : s.OK T D) (h0 : s.state = 0) {b : List UInt8} (hb : b.length ≤ 4) (st : Nat) (hst : st ≠ 0) : (s.go st b).OK T D := by
  refine ⟨fun e => absurd e hst, ?_, h.3, h.4⟩
  show (s.held ++ b).length ≤ 65535
  rw [h.st0 h0]; simp; omega
theorem LexS.OK.first {s : LexS} {T D : Nat} (h : s.OK T D) (h0 : s.state = 0) (p : Nat) {b : List UInt8} (hb : b.length ≤ 4) (good : Bool) : (s.first p b good).OK T (D + 1) := by
  unfold LexS.first
  split
  · exact ⟨h.1, h.2, h.3, by have := h.4; show s.feeds + 1 ≤ D + 1; omega⟩
  split
  · exact h.le (Nat.le_refl _) (by omega)
  split
  · exact (h.go h0 hb 1 (by decide)).le (Nat.le_refl _) (by omega)
  split
  · exact (h.go h0 hb 2 (by decide)).le (Nat.le_refl _) (by omega)
  split
  · exact (h.go h0 hb 3 (by decide)).le (Nat.le_refl _) (by omega)
  split
  · exact (h.go h0 hb 4 (by decide)).le (Nat.le_refl _) (by omega)
  split
  · exact (h.go h0 hb 7 (by decide)).le (Nat.le_refl _) (by omega)
  split
  · exact (h.go h0 hb 8 (by decide)).le (Nat.le_refl _) (by omega)
  · exact (h.fail _ _).le (Nat.le_refl _) (by omega)
theorem LexS.OK.quoted {s : LexS} {T D : Nat} (h : s.OK T D) (h0 : s.state ≠ 0) (p : Nat) (b : List UInt8) (good : Bool) : (s.quoted p b good).OK (T + 1) D := by
  unfold LexS.quoted
  split
  · exact (h.fail _ _).le (by omega) (Nat.le_refl _)
  split
  · exact (h.fail _ _).le (by omega) (Nat.le_refl _)
  rename_i h1
  have h1' : s.held.length + b.length ≤ 65535 := by omega
  have h2 : ({ s with held := s.held ++ b } : LexS).OK T D := ⟨fun e => absurd e h0, by simpa using h1', h.3, h.4⟩
  split
  · exact (h2.fail _ _).le (by omega) (Nat.le_refl _)
  split
  · exact ⟨fun e => absurd e (show ¬ (5 : Nat) = 0 by decide), by simpa using h1', Nat.le_succ_of_le h.3, h.4⟩
  split
  · exact (h2.tell _).le (Nat.le_refl _) (by omega)
  split
  · exact (h2.tell _).le (Nat.le_refl _) (by omega)
  · exact h2.le (by omega) (Nat.le_refl _)
theorem LexS.OK.step {s : LexS} {T D : Nat} (h : s.OK T D) (p : Nat) {b : List UInt8} (hb : b.length ≤ 4) (good : Bool) : (s.stepL p b good).OK (T + 1) (D + 1) := by
  have tf : ∀ kd, ((s.tell kd).first p b good).OK (T + 1) (D + 1) := fun kd => ((h.tell kd).first rfl p hb good).le (Nat.le_refl _) (by omega)
  have mo : ∀ s' : LexS, s'.held = s.held → s'.toks = s.toks → s'.feeds = s.feeds → s'.state ≠ 0 → (s'.more b).OK (T + 1) (D + 1) := by
    intro s' e1 e2 e3 e4
    have : s'.OK T D := ⟨fun e => absurd e e4, by rw [e1]; exact h.2, by rw [e2]; exact h.3, by rw [e3]; exact h.4⟩
    exact (this.more e4 b).le (by omega) (by omega)
  unfold LexS.stepL
  split
  · rename_i h0; exact (h.first h0 p hb good).le (by omega) (Nat.le_refl _)
  rename_i h0
  have mo' := mo s rfl rfl rfl h0
  split
  · split
    · exact mo'
    · exact tf _
  split
  · split
    · exact mo'
    · exact tf _
  split
  · exact (h.quoted h0 p b good).le (Nat.le_refl _) (by omega)
  split
  · split
    · exact mo'
    · exact tf _
  split
  · split
    · exact ((h.more h0 b).tell _).le (Nat.le_refl _) (by omega)
    · exact mo'
  split
  · split
    · exact mo _ rfl rfl rfl (show (6 : Nat) ≠ 0 by decide)
    · split
      · exact mo _ rfl rfl rfl (show (9 : Nat) ≠ 0 by decide)
      · exact tf _
  split
  · exact tf _
  · exact h.le (by omega) (by omega)
-- what the step leaves alone
def LexS.rest (s s' : LexS) : Prop := s'.here = s.here ∧ s'.closed = s.closed ∧ s'.opn = s.opn
theorem rest_first (s : LexS) (p : Nat) (b : List UInt8) (good : Bool) : s.rest (s.first p b good) := by
  unfold LexS.first LexS.rest
  repeat' split
  all_goals exact ⟨rfl, rfl, rfl⟩
theorem rest_more (s : LexS) (b : List UInt8) : s.rest (s.more b) := by
  unfold LexS.more LexS.rest
  repeat' split
  all_goals exact ⟨rfl, rfl, rfl⟩
theorem rest_quoted (s : LexS) (p : Nat) (b : List UInt8) (good : Bool) : s.rest (s.quoted p b good) := by
  unfold LexS.quoted LexS.rest
  repeat' split
  all_goals exact ⟨rfl, rfl, rfl⟩
theorem rest_step (s : LexS) (p : Nat) (b : List UInt8) (good : Bool) : s.rest (s.stepL p b good) := by
  unfold LexS.stepL
  repeat' split
  all_goals first
    | exact rest_first s p b good
    | exact rest_more s b
    | exact rest_quoted s p b good
    | exact rest_first (s.tell _) p b good
    | exact rest_more { s with state := _ } b
    | (obtain ⟨e1, e2, e3⟩ := rest_more s b; exact ⟨e1, e2, e3⟩)
    | exact ⟨rfl, rfl, rfl⟩
/-- A row of bytes out of another. -/
abbrev seg (l : List UInt8) (i j : Nat) : List UInt8 := (l.take j).drop i
theorem seg_length {l : List UInt8} {i j : Nat} (h : j ≤ l.length) : (seg l i j).length = j - i := by simp [seg]; omega
def LexS.char (s : LexS) (p : Nat) (b : List UInt8) (good : Bool) : LexS :=
  if (s.stepL p b good).wrong = 0 then { s.stepL p b good with here := adv s.here b } else s.stepL p b good
/-- lex.take, from a place on. -/
def LexS.takeN (l : List UInt8) : Nat → Nat → LexS → LexS
  | 0, _, s => s
  | n + 1, i, s => if i < l.length ∧ s.wrong = 0 then LexS.takeN l n (i + (nxt l i).2.1) (s.char (nxt l i).1 (seg l i (i + (nxt l i).2.1)) (nxt l i).2.2) else s
def LexS.take (s : LexS) (l : List UInt8) : LexS := LexS.takeN l (l.length + 1) 0 s
theorem LexS.OK.char {s : LexS} {T D : Nat} (h : s.OK T D) (p : Nat) {b : List UInt8} (hb : b.length ≤ 4) (good : Bool) : (s.char p b good).OK (T + 1) (D + 1) := by
  unfold LexS.char
  have := h.step p hb good
  split
  · exact ⟨this.1, this.2, this.3, this.4⟩
  · exact this
theorem lastNl_le (l : List UInt8) : lastNl l ≤ l.length := by
  have := lastB_ge l 10 l.length
  unfold lastNl; omega
/-- A place that is below a bound. -/
def Pl.lt (p : Pl) (N : Nat) : Prop := p.at' ≤ N ∧ p.ln ≤ N + 1 ∧ p.col ≤ N + 1
theorem adv_lt {p : Pl} {N : Nat} (h : p.lt N) (b : List UInt8) : (adv p b).lt (N + b.length) := by
  obtain ⟨h1, h2, h3⟩ := h
  have hc1 : b.count 10 ≤ b.length := List.count_le_length
  have hc2 := count_le _ (b.drop (lastNl b)) (Nat.le_refl _)
  simp only [List.length_drop] at hc2
  refine ⟨by simp only [adv]; omega, by simp only [adv]; omega, ?_⟩
  simp only [adv]
  split <;> omega
theorem nxt_in {l : List UInt8} {i : Nat} (h : i < l.length) : 1 ≤ (nxt l i).2.1 ∧ i + (nxt l i).2.1 ≤ l.length ∧ (nxt l i).2.1 ≤ 4 := by
  have h2 := dec_pos (l.drop i)
  have h3 := dec_le (l := l.drop i) (by simp; omega)
  have h4 := dec_four (l.drop i)
  unfold nxt
  rw [if_neg (by omega)]
  simp only [Int.toNat_natCast, List.length_drop] at h3 ⊢
  omega
theorem char_here {s : LexS} {N : Nat} (h : s.here.lt N) (p : Nat) (b : List UInt8) (good : Bool) : (s.char p b good).here.lt (N + b.length) := by
  unfold LexS.char
  split
  · exact adv_lt h b
  · rw [(rest_step s p b good).1]
    obtain ⟨h1, h2, h3⟩ := h
    exact ⟨by omega, by omega, by omega⟩
end Go.Proofs.Tryd
