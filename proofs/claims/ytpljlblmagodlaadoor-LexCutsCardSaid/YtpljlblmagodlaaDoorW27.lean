/-
  Walks of the seat of LexCuts, part 27: what stays so of a lexer that is fed.
-/
import Derived.Test.YtpljlblmagodlaaDoorW26
set_option linter.unusedVariables false
set_option linter.unusedSimpArgs false
set_option linter.unusedSimpArgs false
set_option maxRecDepth 100000
set_option maxHeartbeats 4000000
namespace Go.Proofs.Tryd
open Go Go.AL
theorem first_held (s : LexS) (p : Nat) (b : List UInt8) (good : Bool) : (s.first p b good).held.length ≤ s.held.length + b.length := by
  unfold LexS.first
  repeat' split
  all_goals simp [LexS.go, LexS.fail]
theorem more_held (s : LexS) (b : List UInt8) : (s.more b).held.length ≤ s.held.length + b.length := by
  unfold LexS.more
  split <;> simp [LexS.fail]
theorem quoted_held (s : LexS) (p : Nat) (b : List UInt8) (good : Bool) : (s.quoted p b good).held.length ≤ s.held.length + b.length := by
  unfold LexS.quoted
  repeat' split
  all_goals simp [LexS.fail, LexS.tell]
theorem step_held (s : LexS) (p : Nat) (b : List UInt8) (good : Bool) : (s.stepL p b good).held.length ≤ s.held.length + b.length := by
  have tf : ∀ kd, ((s.tell kd).first p b good).held.length ≤ s.held.length + b.length := fun kd => Nat.le_trans (first_held _ p b good) (by simp [LexS.tell])
  unfold LexS.stepL
  repeat' split
  all_goals first
    | exact first_held s p b good
    | exact more_held s b
    | exact quoted_held s p b good
    | exact tf _
    | exact more_held { s with state := _ } b
    | (simp [LexS.tell]; done)
    | omega
theorem char_held (s : LexS) (p : Nat) (b : List UInt8) (good : Bool) : (s.char p b good).held.length ≤ s.held.length + b.length := by
  have := step_held s p b good
  unfold LexS.char
  split <;> exact this
theorem takeN_held (l : List UInt8) (N : Nat) : ∀ (n i : Nat) (s : LexS), i ≤ l.length → s.held.length ≤ N + i → (LexS.takeN l n i s).held.length ≤ N + l.length
  | 0, i, s, hi, h => by simp only [LexS.takeN]; omega
  | n + 1, i, s, hi, h => by
    rw [LexS.takeN]
    split
    · rename_i hc
      obtain ⟨n1, n2, n3⟩ := nxt_in (l := l) (i := i) hc.1
      have hsl : (seg l i (i + (nxt l i).2.1)).length = (nxt l i).2.1 := by rw [seg_length n2]; omega
      have := char_held s (nxt l i).1 (seg l i (i + (nxt l i).2.1)) (nxt l i).2.2
      exact takeN_held l N n _ _ n2 (by omega)
    · omega
/-- A lexer to which so many bytes have come. -/
structure CutOK (s : LexS) (T : Nat) : Prop where
  ok : ∃ N, s.OK N N ∧ s.here.lt N ∧ s.held.length ≤ N ∧ N + s.opn.length ≤ T
  opn : s.opn.length ≤ 3
  closed : s.closed = false
theorem CutOK.feed {s : LexS} {T : Nat} (h : CutOK s T) (hw : s.wrong = 0) (c : List UInt8) : CutOK (s.feed c).1 (T + c.length) := by
  obtain ⟨⟨N, h1, h2, h3, h4⟩, h5, h6⟩ := h
  obtain ⟨w1, w2⟩ := whole_le (s.opn ++ c)
  rw [LexS.feed, if_neg (by rw [h6]; simp), if_neg (by omega)]
  have hl : ((s.opn ++ c).take (whole (s.opn ++ c))).length = whole (s.opn ++ c) := by rw [List.length_take]; omega
  have hok := take_ok (s := { s with opn := (s.opn ++ c).drop (whole (s.opn ++ c)) }) (N := N) ((s.opn ++ c).take (whole (s.opn ++ c))) ⟨h1.1, h1.2, h1.3, h1.4⟩ h2
  have hhe := takeN_held ((s.opn ++ c).take (whole (s.opn ++ c))) N (((s.opn ++ c).take (whole (s.opn ++ c))).length + 1) 0 { s with opn := (s.opn ++ c).drop (whole (s.opn ++ c)) } (Nat.zero_le _) (by simpa using h3)
  have hcl := takeN_closed ((s.opn ++ c).take (whole (s.opn ++ c))) (((s.opn ++ c).take (whole (s.opn ++ c))).length + 1) 0 { s with opn := (s.opn ++ c).drop (whole (s.opn ++ c)) }
  simp only [LexS.take]
  simp only [LexS.take] at hok
  generalize LexS.takeN ((s.opn ++ c).take (whole (s.opn ++ c))) (((s.opn ++ c).take (whole (s.opn ++ c))).length + 1) 0 { s with opn := (s.opn ++ c).drop (whole (s.opn ++ c)) } = s1 at hok hhe hcl
  rw [hl] at hok hhe
  have hol : s1.opn.length = (s.opn ++ c).length - whole (s.opn ++ c) := by rw [hcl.2]; simp
  simp only [List.length_append] at w1 w2 hol
  exact ⟨⟨N + whole (s.opn ++ c), ⟨hok.1.1, hok.1.2, Nat.zero_le _, hok.1.4⟩, hok.2, hhe, by show _ + s1.opn.length ≤ _; omega⟩, by show s1.opn.length ≤ 3; omega, by show s1.closed = false; rw [hcl.1]; exact h6⟩
theorem CutOK.toks {s : LexS} {T : Nat} (h : CutOK s T) (hw : s.wrong = 0) (c : List UInt8) : (s.feed c).2.1.length ≤ T + c.length := by
  obtain ⟨⟨N, h1, h2, h3, h4⟩, h5, h6⟩ := h
  obtain ⟨w1, w2⟩ := whole_le (s.opn ++ c)
  rw [LexS.feed, if_neg (by rw [h6]; simp), if_neg (by omega)]
  have hl : ((s.opn ++ c).take (whole (s.opn ++ c))).length = whole (s.opn ++ c) := by rw [List.length_take]; omega
  have hok := take_ok (s := { s with opn := (s.opn ++ c).drop (whole (s.opn ++ c)) }) (N := N) ((s.opn ++ c).take (whole (s.opn ++ c))) ⟨h1.1, h1.2, h1.3, h1.4⟩ h2
  have := hok.1.toks
  rw [hl] at this
  simp only [List.length_append] at w1
  simp only
  omega
theorem CutOK.closeToks {s : LexS} {T : Nat} (h : CutOK s T) (hw : s.wrong = 0) : s.close.2.1.length ≤ T + 1 := by
  obtain ⟨⟨N, h1, h2, h3, h4⟩, h5, h6⟩ := h
  rw [LexS.close, if_neg (by rw [h6]; simp), if_neg (by omega)]
  have hok := take_ok (s := { s with closed := true }) (N := N) s.opn ⟨h1.1, h1.2, h1.3, h1.4⟩ h2
  have ht := hok.1.toks
  simp only
  generalize LexS.take { s with closed := true } s.opn = s1 at ht
  have he : ({ s1 with opn := [] } : LexS).endL.toks.length ≤ s1.toks.length + 1 := by
    unfold LexS.endL
    repeat' split
    all_goals simp [LexS.tell, LexS.fail]
  split
  · omega
  · show s1.toks.length ≤ _; omega
theorem lex0_cut : CutOK lex0 0 := ⟨⟨0, ⟨fun _ => rfl, by simp [lex0], by simp [lex0], by simp [lex0]⟩, ⟨by simp [lex0], by simp [lex0], by simp [lex0]⟩, by simp [lex0], by simp [lex0]⟩, by simp [lex0], rfl⟩
theorem CutOK.heldN {s : LexS} {T : Nat} (h : CutOK s T) : s.heldN ≤ 65540 ∧ s.heldN ≤ T := by
  obtain ⟨⟨N, h1, h2, h3, h4⟩, h5, h6⟩ := h
  have := h1.held
  unfold LexS.heldN
  split <;> omega
/-- Chunks that are fed, one behind the other: the lexer, the tokens, the error and its place. -/
def cutF : List (List UInt8) → LexS → List Tk → LexS × List Tk × Nat × Pl
  | [], s, got => (s, got, 0, P0)
  | c :: r, s, got => if (s.feed c).2.2.1 = 0 then cutF r (s.feed c).1 (got ++ (s.feed c).2.1) else ((s.feed c).1, got ++ (s.feed c).2.1, (s.feed c).2.2.1, (s.feed c).2.2.2)
/-- And closed. -/
def cutAll (l : List (List UInt8)) : List Tk × Nat × Pl :=
  if (cutF l lex0 []).2.2.1 = 0 then ((cutF l lex0 []).2.1 ++ (cutF l lex0 []).1.close.2.1, (cutF l lex0 []).1.close.2.2.1, (cutF l lex0 []).1.close.2.2.2)
  else (cutF l lex0 []).2
theorem sizeL_le : ∀ (l : List (List UInt8)) (n : Nat), sizeL l n ≤ 67108864 → n + l.length * 16 + l.flatten.length ≤ 67108864
  | [], n, h => by simpa [sizeL] using h
  | x :: r, n, h => by
    rw [sizeL] at h
    split at h
    · have := sizeL_le r _ h
      simp only [List.length_cons, List.flatten_cons, List.length_append]
      omega
    · omega
theorem feed_wrong {s : LexS} (hc : s.closed = false) (hw : s.wrong = 0) (c : List UInt8) : (s.feed c).1.wrong = (s.feed c).2.2.1 ∧ (s.feed c).1.toks = [] ∧ (s.feed c).1.whr = (s.feed c).2.2.2 := by
  rw [LexS.feed, if_neg (by rw [hc]; simp), if_neg (by omega)]
  exact ⟨rfl, rfl, rfl⟩
end Go.Proofs.Tryd
