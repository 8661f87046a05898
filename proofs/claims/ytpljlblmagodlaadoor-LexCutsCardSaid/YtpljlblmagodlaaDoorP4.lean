/-
  The plain law of LexCuts, part 4: the machine's tokens are the scanner's.
-/
import Derived.Test.YtpljlblmagodlaaDoorP3
set_option linter.unusedVariables false
set_option linter.unusedSimpArgs false
set_option linter.unusedSimpArgs false
set_option maxRecDepth 100000
set_option maxHeartbeats 4000000
namespace Go.Proofs.Tryd
open Go Go.AL
/-- A lexer between tokens. -/
structure Base (s : LexS) : Prop where
  state : s.state = 0
  held : s.held = []
  wrong : s.wrong = 0
  whr : s.whr = P0
/-- Within a token. -/
def mid (s : LexS) (l : List UInt8) (j st e : Nat) : LexS := { s with state := st, held := seg l j e, beg := s.here, here := adv s.here (seg l j e) }
/-- Behind it. -/
def aft (s : LexS) (l : List UInt8) (j kd e : Nat) : LexS := { s with state := 0, held := [], beg := s.here, here := adv s.here (seg l j e), feeds := 0, toks := s.toks ++ [⟨kd, tokT kd (seg l j e), s.here, s.feeds⟩] }
def fin (s : LexS) (l : List UInt8) (j : Nat) (x : Int × Nat × Int) : List Tk × Nat × Pl :=
  if x.2.2 = 0 then run (aft s l j x.1.toNat x.2.1) (chars (l.drop x.2.1)) else (s.toks, x.2.2.toNat, adv s.here (seg l j x.2.1))
theorem run_wrong {s : LexS} (h : s.wrong ≠ 0) (cs : List Ch) : run s cs = (s.toks, s.wrong, s.whr) := by
  unfold run
  rw [foldC_wrong h, if_neg h]
theorem run_end {s : LexS} (h : s.wrong = 0) : run s [] = (s.endL.toks, s.endL.wrong, s.endL.whr) := by
  unfold run
  exact if_pos h
theorem run_cons {s : LexS} (h : s.wrong = 0) {l : List UInt8} {e : Nat} (he : e < l.length) :
    run s (chars (l.drop e)) = run (s.char (nxt l e).1 (seg l e (e + (nxt l e).2.1)) (nxt l e).2.2) (chars (l.drop (e + (nxt l e).2.1))) := by
  obtain ⟨hc, hn⟩ := nxt_ch he
  rw [chars_cons (by simp; omega), ← hc, List.drop_drop, ← hn]
  unfold run
  simp only [foldC, if_pos h]
theorem midw {s : LexS} {l : List UInt8} {j st e : Nat} (hs : Base s) : (mid s l j st e).wrong = 0 := hs.wrong
theorem aftw {s : LexS} {l : List UInt8} {j kd e : Nat} (hs : Base s) : (aft s l j kd e).wrong = 0 := hs.wrong
section
variable {s : LexS} {l : List UInt8} {j e st : Nat} {cs : List Ch}
theorem mid_len (hje : j ≤ e) (hel : e ≤ l.length) : (mid s l j st e).held.length = e - j := by
  show (seg l j e).length = _
  rw [seg_length hel]
theorem tell_mid (k : Nat) (hk : k ≠ 1) : (mid s l j st e).tell k = aft s l j k e := by
  have h1 : tellK (mid s l j st e) k = k := by unfold tellK; rw [if_neg (fun h => hk h.1)]
  have h2 : tellT (mid s l j st e) k = tokT k (seg l j e) := by
    unfold tellT tokT
    by_cases h : k = 7
    · rw [if_pos h, if_pos (by omega)]; rfl
    · rw [if_neg h, if_neg (by omega)]; rfl
  unfold LexS.tell
  rw [h1, h2]
  rfl
theorem tell_name : (mid s l j st e).tell 1 = aft s l j (if seg l j e ∈ keyWords then 2 else 1) e := by
  have h2 : tellT (mid s l j st e) 1 = seg l j e := rfl
  have h1 : tellK (mid s l j st e) 1 = if seg l j e ∈ keyWords then 2 else 1 := by
    unfold tellK
    rw [h2]
    by_cases h : seg l j e ∈ keyWords
    · rw [if_pos ⟨rfl, h⟩, if_pos h]
    · rw [if_neg (fun x => h x.2), if_neg h]
  unfold LexS.tell
  rw [h1, h2]
  unfold aft
  have : ∀ k : Nat, k = 2 ∨ k = 1 → tokT k (seg l j e) = seg l j e := fun k hk => by unfold tokT; rw [if_neg (by omega)]
  rw [this _ (by split <;> simp)]
  rfl
/-- One more character of the token. -/
theorem char_on (hs : Base s) (hP : Path l j e cs) (he : e < l.length) {st' p : Nat} {good : Bool}
    (h : (mid s l j st e).stepL p (seg l e (e + (nxt l e).2.1)) good = { mid s l j st e with state := st', held := seg l j e ++ seg l e (e + (nxt l e).2.1) }) :
    (mid s l j st e).char p (seg l e (e + (nxt l e).2.1)) good = mid s l j st' (e + (nxt l e).2.1) := by
  have hle := hP.le
  unfold LexS.char
  rw [h]
  have hw : ({ mid s l j st e with state := st', held := seg l j e ++ seg l e (e + (nxt l e).2.1) } : LexS).wrong = 0 := hs.wrong
  rw [if_pos hw]
  unfold mid
  rw [seg_append hle.1 (Nat.le_add_right _ _), hP.advOn he]
/-- Something is wrong. -/
theorem run_fail {S : LexS} (hw : S.wrong = 0) (he : e < l.length) {c : Nat} (hc : c ≠ 0) {pl : Pl} {S' : LexS} (ht : S'.toks = S.toks)
    (h : S.stepL (nxt l e).1 (seg l e (e + (nxt l e).2.1)) (nxt l e).2.2 = S'.fail c pl) : run S (chars (l.drop e)) = (S.toks, c, pl) := by
  have hc1 : S.char (nxt l e).1 (seg l e (e + (nxt l e).2.1)) (nxt l e).2.2 = S'.fail c pl := by
    unfold LexS.char
    rw [h]; exact if_neg hc
  rw [run_cons hw he, hc1, run_wrong hc]
  show (S'.toks, c, pl) = _
  rw [ht]
/-- The token ends ahead of a character. -/
theorem run_again (hs : Base s) (he : e < l.length) {kd : Nat}
    (h : (mid s l j st e).stepL (nxt l e).1 (seg l e (e + (nxt l e).2.1)) (nxt l e).2.2 = (aft s l j kd e).first (nxt l e).1 (seg l e (e + (nxt l e).2.1)) (nxt l e).2.2) :
    run (mid s l j st e) (chars (l.drop e)) = run (aft s l j kd e) (chars (l.drop e)) := by
  rw [run_cons (midw hs) he, run_cons (aftw hs) he]
  congr 1
  unfold LexS.char
  rw [h, stepL_zero (s := aft s l j kd e) rfl]
  rfl
/-- The token ends with a character. -/
theorem run_last (hs : Base s) (hP : Path l j e cs) (he : e < l.length) {k st' : Nat} (hk : k ≠ 1)
    (h : (mid s l j st e).stepL (nxt l e).1 (seg l e (e + (nxt l e).2.1)) (nxt l e).2.2 = LexS.tell { mid s l j st e with state := st', held := seg l j e ++ seg l e (e + (nxt l e).2.1) } k) :
    run (mid s l j st e) (chars (l.drop e)) = run (aft s l j k (e + (nxt l e).2.1)) (chars (l.drop (e + (nxt l e).2.1))) := by
  have hle := hP.le
  rw [run_cons (midw hs) he]
  congr 1
  unfold LexS.char
  rw [h]
  have hw : (LexS.tell { mid s l j st e with state := st', held := seg l j e ++ seg l e (e + (nxt l e).2.1) } k).wrong = 0 := hs.wrong
  rw [if_pos hw, ← tell_mid (st := st') k hk]
  unfold mid LexS.tell
  simp only [seg_append hle.1 (Nat.le_add_right _ _), hP.advOn he]
  congr 1
/-- The token ends with the source. -/
theorem run_stop (hs : Base s) {kd : Nat} (h : (mid s l j st e).endL = aft s l j kd e) : run (mid s l j st e) [] = run (aft s l j kd e) [] := by
  have e2 : (aft s l j kd e).endL = aft s l j kd e := rfl
  rw [run_end (show (mid s l j st e).wrong = 0 from hs.wrong), run_end (show (aft s l j kd e).wrong = 0 from hs.wrong), h, e2]
/-- The source ends within the token. -/
theorem run_open (hs : Base s) (h : (mid s l j st e).endL = (mid s l j st e).fail 101 s.here) : run (mid s l j st e) [] = (s.toks, 101, s.here) := by
  rw [run_end (show (mid s l j st e).wrong = 0 from hs.wrong), h]; rfl
theorem more_eq {S : LexS} {b : List UInt8} (h : S.held.length + b.length ≤ 65535) : S.more b = { S with held := S.held ++ b } := if_pos h
theorem more_bad {S : LexS} {b : List UInt8} (h : ¬ S.held.length + b.length ≤ 65535) : S.more b = S.fail 103 S.beg := if_neg h
theorem nxt_end (h : l.length ≤ e) : nxt l e = (0, 0, false) := by unfold nxt; rw [if_pos (by omega)]
theorem here_nil : adv s.here (seg l j j) = s.here := by rw [seg_self, adv_nil]

theorem L_named (hs : Base s) (hj : j < l.length) : ∀ (n e : Nat) (cs : List Ch), Path l j e cs → j < e → e ≤ l.length → l.length < n + e → run (mid s l j 1 e) (chars (l.drop e)) = fin s l j (namedF l j n e)
  | 0, e, cs, hP, h1, h2, h3 => by omega
  | n + 1, e, cs, hP, h1, h2, h3 => by
    have hml := mid_len (s := s) (st := 1) hP.le.1 h2
    rw [namedF]
    by_cases he : e < l.length
    · obtain ⟨n1, n2, n3⟩ := nxt_in he
      have hbl : (seg l e (e + (nxt l e).2.1)).length = (nxt l e).2.1 := by rw [seg_length n2]; omega
      have hst := LexS.stepL.eq_1 (mid s l j 1 e) (nxt l e).1 (seg l e (e + (nxt l e).2.1)) (nxt l e).2.2
      rw [if_neg (by show ¬ (1 : Nat) = 0; decide), if_pos (by rfl)] at hst
      by_cases hp : (nxt l e).2.2 = true ∧ partP (nxt l e).1 = true
      · rw [if_pos hp]
        rw [if_pos hp] at hst
        by_cases hm : 65535 < e + (nxt l e).2.1 - j
        · rw [if_pos hm]
          rw [more_bad (by rw [hml, hbl]; omega)] at hst
          rw [run_fail (midw hs) he (c := 103) (by decide) rfl hst, fin, if_neg (by simp)]
          simp only [here_nil]
          rfl
        · rw [if_neg hm]
          rw [more_eq (by rw [hml, hbl]; omega)] at hst
          rw [run_cons (midw hs) he, char_on (st' := 1) hs hP he hst]
          exact L_named hs hj n _ _ (hP.snoc he) (by omega) n2 (by omega)
      · rw [if_neg hp]
        rw [if_neg hp, tell_name] at hst
        rw [run_again hs he hst, fin]
        change _ = if (if seg l j e ∈ keyWords then ((2 : Int), e, (0 : Int)) else (1, e, 0)).2.2 = 0 then _ else _
        by_cases hk : seg l j e ∈ keyWords
        · simp only [hk, if_true]; rfl
        · simp only [hk, if_false]; rfl
    · have hel : e = l.length := by omega
      rw [nxt_end (by omega), if_neg (by simp)]
      rw [List.drop_eq_nil_of_le (by omega), chars_nil]
      have hen : (mid s l j 1 e).endL = aft s l j (if seg l j e ∈ keyWords then 2 else 1) e := by
        rw [← tell_name (st := 1)]; rfl
      rw [run_stop hs hen, fin]
      change _ = if (if seg l j e ∈ keyWords then ((2 : Int), e, (0 : Int)) else (1, e, 0)).2.2 = 0 then _ else _
      by_cases hk : seg l j e ∈ keyWords
      · simp only [hk, if_true]; rw [List.drop_eq_nil_of_le (by omega)]; rfl
      · simp only [hk, if_false]; rw [List.drop_eq_nil_of_le (by omega)]; rfl
theorem L_num (hs : Base s) (hj : j < l.length) : ∀ (n e : Nat) (cs : List Ch), Path l j e cs → j < e → e ≤ l.length → l.length < n + e → run (mid s l j 2 e) (chars (l.drop e)) = fin s l j (numF l j n e)
  | 0, e, cs, hP, h1, h2, h3 => by omega
  | n + 1, e, cs, hP, h1, h2, h3 => by
    have hml := mid_len (s := s) (st := 2) hP.le.1 h2
    rw [numF]
    by_cases he : e < l.length
    · obtain ⟨n1, n2, n3⟩ := nxt_in he
      have hbl : (seg l e (e + (nxt l e).2.1)).length = (nxt l e).2.1 := by rw [seg_length n2]; omega
      have hst := LexS.stepL.eq_1 (mid s l j 2 e) (nxt l e).1 (seg l e (e + (nxt l e).2.1)) (nxt l e).2.2
      rw [if_neg (by show ¬ (2 : Nat) = 0; decide), if_neg (by show ¬ (2 : Nat) = 1; decide), if_pos (by rfl)] at hst
      by_cases hp : 48 ≤ (nxt l e).1 ∧ (nxt l e).1 ≤ 57
      · rw [if_pos (by omega)]
        rw [if_pos hp] at hst
        by_cases hm : 65535 < e + (nxt l e).2.1 - j
        · rw [if_pos hm]
          rw [more_bad (by rw [hml, hbl]; omega)] at hst
          rw [run_fail (midw hs) he (c := 103) (by decide) rfl hst, fin, if_neg (by simp)]
          simp only [here_nil]
          rfl
        · rw [if_neg hm]
          rw [more_eq (by rw [hml, hbl]; omega)] at hst
          rw [run_cons (midw hs) he, char_on (st' := 2) hs hP he hst]
          exact L_num hs hj n _ _ (hP.snoc he) (by omega) n2 (by omega)
      · rw [if_neg (by omega)]
        rw [if_neg hp, tell_mid 3 (by decide)] at hst
        rw [run_again hs he hst, fin, if_pos rfl]
        rfl
    · rw [nxt_end (by omega), if_neg (by simp), List.drop_eq_nil_of_le (by omega), chars_nil]
      have hen : (mid s l j 2 e).endL = aft s l j 3 e := by
        rw [← tell_mid (st := 2) 3 (by decide)]; rfl
      rw [run_stop hs hen, fin, if_pos rfl]
      simp only
      rw [List.drop_eq_nil_of_le (by omega)]
      rfl
end
end Go.Proofs.Tryd
