/-
  The plain law of LexCuts, part 2: chunks do not matter.
-/
import Derived.Test.YtpljlblmagodlaaDoorP1
set_option linter.unusedVariables false
set_option linter.unusedSimpArgs false
set_option linter.unusedSimpArgs false
set_option maxRecDepth 100000
set_option maxHeartbeats 4000000
namespace Go.Proofs.Tryd
open Go Go.AL
structure Ch where
  p : Nat
  b : List UInt8
  good : Bool
def ch1 (l : List UInt8) : Ch := ⟨(dec l).1, l.take (dec l).2, decide (¬ ((dec l).1 = 65533 ∧ (dec l).2 = 1))⟩
def chN : Nat → List UInt8 → List Ch
  | 0, _ => []
  | n + 1, l => if l = [] then [] else ch1 l :: chN n (l.drop (dec l).2)
def chars (l : List UInt8) : List Ch := chN l.length l
theorem chN_more : ∀ (n : Nat) (l : List UInt8), l.length ≤ n → chN n l = chars l := by
  have key : ∀ (n m : Nat) (l : List UInt8), l.length ≤ n → l.length ≤ m → chN n l = chN m l := by
    intro n
    induction n with
    | zero =>
      intro m l h _
      have : l = [] := List.eq_nil_of_length_eq_zero (by omega)
      cases m <;> simp [chN, this]
    | succ n ih =>
      intro m l h h'
      cases m with
      | zero => have : l = [] := List.eq_nil_of_length_eq_zero (by omega)
                simp [chN, this]
      | succ m =>
        simp only [chN]
        split
        · rfl
        · have := dec_pos l
          rw [ih m _ (by simp; omega) (by simp; omega)]
  intro n l h
  exact key n l.length l h (Nat.le_refl _)
theorem chars_nil : chars [] = [] := rfl
theorem chars_cons {l : List UInt8} (h : 0 < l.length) : chars l = ch1 l :: chars (l.drop (dec l).2) := by
  have h1 := dec_pos l
  conv => lhs; unfold chars
  obtain ⟨n, hn⟩ : ∃ n, l.length = n + 1 := ⟨l.length - 1, by omega⟩
  rw [hn]
  simp only [chN]
  rw [if_neg (by rintro rfl; simp at h), chN_more _ _ (by simp; omega)]
theorem ch1_more {a v : List UInt8} (h0 : 0 < a.length) (h : dec (a ++ v) = dec a) : ch1 (a ++ v) = ch1 a := by
  have h2 := dec_le h0
  unfold ch1
  rw [h, List.take_append_of_le_length h2]
/-- Where no character's bytes go on behind a place. -/
theorem chars_append : ∀ (n : Nat) (a v : List UInt8), a.length ≤ n → (∀ i, i < a.length → dec (a.drop i ++ v) = dec (a.drop i)) → chars (a ++ v) = chars a ++ chars v
  | 0, a, v, h, _ => by
    have : a = [] := List.eq_nil_of_length_eq_zero (by omega)
    subst this; simp [chars_nil]
  | n + 1, a, v, h, hd => by
    by_cases ha : 0 < a.length
    · have h0 := hd 0 ha
      rw [List.drop_zero] at h0
      have h1 := dec_pos a
      have h2 := dec_le ha
      rw [chars_cons (l := a ++ v) (by simp; omega), chars_cons ha, h0, ch1_more ha h0, List.drop_append_of_le_length h2, List.cons_append,
        chars_append n (a.drop (dec a).2) v (by simp; omega) (fun i hi => by
          rw [List.drop_drop]; exact hd _ (by simp at hi; omega))]
    · have : a = [] := List.eq_nil_of_length_eq_zero (by omega)
      subst this; simp [chars_nil]
theorem wholeG_spec (l : List UInt8) : ∀ f n, f + n = 5 → 1 ≤ n → (wholeG l f n = l.length ∧ ∀ m, n ≤ m → m < 4 → m ≤ l.length → fullR (l.drop (l.length - m)) = true) ∨
    (∃ m, n ≤ m ∧ m < 4 ∧ m ≤ l.length ∧ wholeG l f n = l.length - m ∧ fullR (l.drop (l.length - m)) = false ∧ ∀ q, n ≤ q → q < m → fullR (l.drop (l.length - q)) = true)
  | 0, n, h, h1 => by left; exact ⟨rfl, fun m h2 h3 _ => by omega⟩
  | f + 1, n, h, h1 => by
    rw [wholeG]
    split
    · split
      · rename_i h2 h3
        rcases wholeG_spec l f (n + 1) (by omega) (by omega) with ⟨e, h4⟩ | ⟨m, e1, e2, e3, e4, e5, e6⟩
        · left
          refine ⟨e, fun m h5 h6 h7 => ?_⟩
          rcases Nat.eq_or_lt_of_le h5 with h8 | h8
          · rw [← h8]; exact h3
          · exact h4 m h8 h6 h7
        · right
          refine ⟨m, by omega, e2, e3, e4, e5, fun q h5 h6 => ?_⟩
          rcases Nat.eq_or_lt_of_le h5 with h8 | h8
          · rw [← h8]; exact h3
          · exact e6 q h8 h6
      · rename_i h2 h3
        right
        exact ⟨n, Nat.le_refl _, h2.1, h2.2, rfl, by simpa using h3, fun q h5 h6 => by omega⟩
    · rename_i h2
      left
      exact ⟨rfl, fun m h3 h4 h5 => by omega⟩
theorem lead_dec {x : List UInt8} (h0 : 0 < x.length) (h : 194 ≤ atB x 0) {a : List UInt8} (ha : 0 < a.length) : (dec (a ++ x)).2 ≤ a.length := by
  rcases Nat.lt_or_ge a.length (dec (a ++ x)).2 with h1 | h1
  · exfalso
    have hx : atB (a ++ x) a.length = atB x 0 := by simp [atB, List.getD, List.getElem?_append]
    have hv : DecV (a ++ x) (dec (a ++ x)).1 (dec (a ++ x)).2 := by
      rcases dec_cases (a ++ x) with hv | ⟨e, _⟩
      · exact hv
      · rw [e] at h1; simp only at h1; omega
    generalize (dec (a ++ x)).1 = c at hv
    generalize hn : (dec (a ++ x)).2 = n at hv h1
    cases hv with
    | one => omega
    | two g1 g2 g3 =>
      have e : a.length = 1 := by omega
      rw [e] at hx; omega
    | three g1 g2 g3 g4 =>
      have e : a.length = 1 ∨ a.length = 2 := by omega
      rcases e with e | e <;> rw [e] at hx <;> omega
    | four g1 g2 g3 g4 g5 =>
      have e : a.length = 1 ∨ a.length = 2 ∨ a.length = 3 := by omega
      rcases e with e | e | e <;> rw [e] at hx <;> omega
  · exact h1
/-- What is whole of a text is that, whatever comes behind it. -/
theorem chars_whole (t u : List UInt8) : chars (t ++ u) = chars (t.take (whole t)) ++ chars (t.drop (whole t) ++ u) := by
  have hsp := wholeG_spec t 4 1 rfl (Nat.le_refl _)
  have hw := whole_le t
  change (whole t = t.length ∧ _) ∨ (∃ m, _ ∧ _ ∧ _ ∧ whole t = t.length - m ∧ _) at hsp
  have e : t ++ u = t.take (whole t) ++ (t.drop (whole t) ++ u) := by rw [← List.append_assoc, List.take_append_drop]
  conv => lhs; rw [e]
  refine chars_append _ _ _ (Nat.le_refl _) fun i hi => ?_
  rw [List.length_take] at hi
  have hil : i < t.length := by omega
  have hxl : ((t.take (whole t)).drop i).length = whole t - i := by simp; omega
  have hx0 : 0 < ((t.take (whole t)).drop i).length := by omega
  apply dec_more hx0
  rcases hsp with ⟨e1, h1⟩ | ⟨m, m1, m2, m3, m4, m5, m6⟩
  · rw [e1, List.take_length, List.drop_length, List.nil_append]
    rcases Nat.lt_or_ge (t.drop i).length (dec (t.drop i ++ u)).2 with h2 | h2
    · exfalso
      have h3 := full_open (x := t.drop i) (u := u) (by simp; omega) h2
      have h4 := dec_four (t.drop i ++ u)
      simp only [List.length_drop] at h2
      have h5 := h1 (t.length - i) (by omega) (by omega) (by omega)
      rw [show t.length - (t.length - i) = i by omega] at h5
      rw [h3] at h5; cases h5
    · exact h2
  · have hy0 : 0 < (t.drop (whole t)).length := by simp; omega
    have hl : 194 ≤ atB (t.drop (whole t)) 0 := full_lead hy0 (by rw [m4]; exact m5)
    exact lead_dec (by simp; omega) (by rw [atB_append hy0]; exact hl) hx0
/-- Characters, one behind the other, until something is wrong. -/
def foldC : LexS → List Ch → LexS
  | s, [] => s
  | s, c :: r => if s.wrong = 0 then foldC (s.char c.p c.b c.good) r else s
theorem foldC_wrong {s : LexS} (h : s.wrong ≠ 0) : ∀ cs, foldC s cs = s
  | [] => rfl
  | c :: r => by rw [foldC, if_neg h]
theorem foldC_append : ∀ (a b : List Ch) (s : LexS), foldC s (a ++ b) = foldC (foldC s a) b
  | [], b, s => rfl
  | c :: a, b, s => by
    rw [List.cons_append, foldC, foldC]
    split
    · exact foldC_append a b _
    · rename_i h; rw [foldC_wrong h]
theorem nxt_ch {l : List UInt8} {i : Nat} (h : i < l.length) : (⟨(nxt l i).1, seg l i (i + (nxt l i).2.1), (nxt l i).2.2⟩ : Ch) = ch1 (l.drop i) ∧ (nxt l i).2.1 = (dec (l.drop i)).2 := by
  unfold nxt
  rw [if_neg (by omega)]
  refine ⟨?_, rfl⟩
  simp only [ch1, Int.toNat_natCast, seg]
  congr 1
  rw [List.drop_take]
  congr 1
  omega
theorem takeN_fold (l : List UInt8) : ∀ (n i : Nat) (s : LexS), i ≤ l.length → l.length < n + i → LexS.takeN l n i s = foldC s (chars (l.drop i))
  | 0, i, s, h1, h2 => by omega
  | n + 1, i, s, h1, h2 => by
    rw [LexS.takeN]
    by_cases hi : i < l.length
    · obtain ⟨hc, hn⟩ := nxt_ch hi
      have hp := nxt_in hi
      rw [chars_cons (by simp; omega), foldC, ← hc]
      by_cases hw : s.wrong = 0
      · rw [if_pos ⟨hi, hw⟩, if_pos hw, takeN_fold l n _ _ hp.2.1 (by omega), List.drop_drop, hn]
      · rw [if_neg (fun h => hw h.2), if_neg hw]
    · rw [if_neg (fun h => hi h.1), List.drop_eq_nil_of_le (by omega), chars_nil]; rfl
theorem take_fold (s : LexS) (l : List UInt8) : s.take l = foldC s (chars l) := by
  rw [LexS.take, takeN_fold l _ 0 s (Nat.zero_le _) (by omega), List.drop_zero]
-- what is kept beside does not matter
def LexS.re (s : LexS) (o : List UInt8) (c : Bool) (x : List Tk) : LexS := { s with opn := o, closed := c, toks := x ++ s.toks }
theorem re_tell (s : LexS) (o : List UInt8) (c : Bool) (x : List Tk) (k : Nat) : (s.re o c x).tell k = (s.tell k).re o c x := by
  have h : x ++ s.toks ++ [⟨tellK s k, tellT s k, s.beg, s.feeds⟩] = x ++ (s.toks ++ [⟨tellK s k, tellT s k, s.beg, s.feeds⟩]) := List.append_assoc _ _ _
  exact congrArg (fun t => ({ s.tell k with opn := o, closed := c, toks := t } : LexS)) h
theorem re_fail (s : LexS) (o : List UInt8) (c : Bool) (x : List Tk) (e : Nat) (p : Pl) : (s.re o c x).fail e p = (s.fail e p).re o c x := rfl
theorem re_more (s : LexS) (o : List UInt8) (c : Bool) (x : List Tk) (b : List UInt8) : (s.re o c x).more b = (s.more b).re o c x := by
  unfold LexS.more
  by_cases h : s.held.length + b.length ≤ 65535
  · rw [if_pos (show (s.re o c x).held.length + b.length ≤ 65535 from h), if_pos h]; rfl
  · rw [if_neg (show ¬ (s.re o c x).held.length + b.length ≤ 65535 from h), if_neg h]; rfl
theorem re_first (s : LexS) (o : List UInt8) (c : Bool) (x : List Tk) (p : Nat) (b : List UInt8) (good : Bool) : (s.re o c x).first p b good = (s.first p b good).re o c x := by
  simp only [LexS.first]
  repeat' split
  all_goals rfl
theorem re_quoted (s : LexS) (o : List UInt8) (c : Bool) (x : List Tk) (p : Nat) (b : List UInt8) (good : Bool) : (s.re o c x).quoted p b good = (s.quoted p b good).re o c x := by
  have hs : (s.re o c x).state = s.state := rfl
  have hh : (s.re o c x).held = s.held := rfl
  simp only [LexS.quoted, hs, hh]
  repeat' split
  all_goals first | rfl | exact re_tell { s with held := s.held ++ b } o c x _
theorem re_step (s : LexS) (o : List UInt8) (c : Bool) (x : List Tk) (p : Nat) (b : List UInt8) (good : Bool) : (s.re o c x).stepL p b good = (s.stepL p b good).re o c x := by
  have m : ∀ st, ({ (s.re o c x) with state := st } : LexS).more b = ({ s with state := st }.more b).re o c x := fun st => re_more { s with state := st } o c x b
  have hs : (s.re o c x).state = s.state := rfl
  have hh : (s.re o c x).held = s.held := rfl
  simp only [LexS.stepL, re_tell, re_first, re_more, re_quoted, hs, hh, m]
  repeat' split
  all_goals first | rfl | exact re_more { s with state := _ } o c x b
theorem re_char (s : LexS) (o : List UInt8) (c : Bool) (x : List Tk) (p : Nat) (b : List UInt8) (good : Bool) : (s.re o c x).char p b good = (s.char p b good).re o c x := by
  have hs : ((s.stepL p b good).re o c x).wrong = (s.stepL p b good).wrong := rfl
  have hh : (s.re o c x).here = s.here := rfl
  simp only [LexS.char, re_step, hs, hh]
  split <;> rfl
theorem re_fold (o : List UInt8) (c : Bool) (x : List Tk) : ∀ (cs : List Ch) (s : LexS), foldC (s.re o c x) cs = (foldC s cs).re o c x
  | [], s => rfl
  | d :: r, s => by
    have hs : (s.re o c x).wrong = s.wrong := rfl
    rw [foldC, foldC, hs, re_char]
    split
    · exact re_fold o c x r _
    · rfl
theorem re_end (s : LexS) (o : List UInt8) (c : Bool) (x : List Tk) : (s.re o c x).endL = s.endL.re o c x := by
  have hs : (s.re o c x).state = s.state := rfl
  simp only [LexS.endL, re_tell, hs]
  repeat' split
  all_goals rfl
/-- The machine over characters, and the end. -/
def run (s : LexS) (cs : List Ch) : List Tk × Nat × Pl :=
  if (foldC s cs).wrong = 0 then ((foldC s cs).endL.toks, (foldC s cs).endL.wrong, (foldC s cs).endL.whr) else ((foldC s cs).toks, (foldC s cs).wrong, (foldC s cs).whr)
theorem fold_rest : ∀ (cs : List Ch) (s : LexS), (foldC s cs).opn = s.opn ∧ (foldC s cs).closed = s.closed
  | [], s => ⟨rfl, rfl⟩
  | c :: r, s => by
    rw [foldC]
    split
    · have h := fold_rest r (s.char c.p c.b c.good)
      have hr := rest_step s c.p c.b c.good
      have hc : (s.char c.p c.b c.good).opn = s.opn ∧ (s.char c.p c.b c.good).closed = s.closed := by
        unfold LexS.char
        split
        · exact ⟨hr.2.2, hr.2.1⟩
        · exact ⟨hr.2.2, hr.2.1⟩
      exact ⟨h.1.trans hc.1, h.2.trans hc.2⟩
    · exact ⟨rfl, rfl⟩
/-- Chunks: the lexer, between two of them. -/
theorem cut_step : ∀ (l : List (List UInt8)) (s : LexS) (got : List Tk) (D : List Ch), s.wrong = 0 → s.closed = false → s.toks = [] → s.re [] false got = foldC lex0 D →
    (if (cutF l s got).2.2.1 = 0 then ((cutF l s got).2.1 ++ (cutF l s got).1.close.2.1, (cutF l s got).1.close.2.2.1, (cutF l s got).1.close.2.2.2) else (cutF l s got).2) = run lex0 (D ++ chars (s.opn ++ l.flatten))
  | [], s, got, D, hw, hc, ht, hD => by
    simp only [cutF, if_pos, List.flatten_nil, List.append_nil]
    rw [LexS.close, if_neg (by rw [hc]; simp), if_neg (by omega)]
    unfold run
    rw [foldC_append, ← hD, re_fold]
    have e : { s with closed := true }.take s.opn = (foldC s (chars s.opn)).re s.opn true [] := by
      have e0 : ({ s with closed := true } : LexS) = s.re s.opn true [] := rfl
      rw [take_fold, e0, re_fold]
    rw [e]
    generalize foldC s (chars s.opn) = S
    have w1 : (S.re [] false got).wrong = S.wrong := rfl
    have e2 : ({ S.re s.opn true [] with opn := [] } : LexS) = S.re [] true [] := rfl
    simp only [e2, w1]
    have w2 : (S.re s.opn true []).wrong = S.wrong := rfl
    rw [re_end]
    by_cases h : S.wrong = 0
    · rw [w2, if_pos h, if_pos h, re_end]; rfl
    · rw [w2, if_neg h, if_neg h]; rfl
  | c :: r, s, got, D, hw, hc, ht, hD => by
    have hf := LexS.feed.eq_1 s c
    rw [if_neg (by rw [hc]; simp), if_neg (by omega)] at hf
    simp only at hf
    have e0 : ∀ o, ({ s with opn := o } : LexS) = s.re o false [] := fun o => by simp only [LexS.re, List.nil_append, ← hc]
    rw [take_fold, e0, re_fold] at hf
    have hwh := chars_whole (s.opn ++ c) r.flatten
    have hfl : s.opn ++ (c :: r).flatten = (s.opn ++ c) ++ r.flatten := by rw [List.flatten_cons, List.append_assoc]
    rw [hfl, hwh]
    generalize (s.opn ++ c).drop (whole (s.opn ++ c)) = o at hf
    generalize (s.opn ++ c).take (whole (s.opn ++ c)) = a at hf
    have hD2 : (foldC s (chars a)).re [] false got = foldC lex0 (D ++ chars a) := by rw [foldC_append, ← hD, re_fold]
    have hcl := fold_rest (chars a) s
    generalize foldC s (chars a) = S at hf hD2 hcl
    rw [cutF, hf]
    have w1 : (S.re o false []).wrong = S.wrong := rfl
    simp only [w1]
    by_cases h : S.wrong = 0
    · rw [if_pos h]
      have := cut_step r { S.re o false [] with toks := [] } (got ++ (S.re o false []).toks) (D ++ chars a) h rfl rfl (by rw [← hD2]; simp only [LexS.re, List.nil_append, List.append_nil])
      refine Eq.trans this ?_
      rw [List.append_assoc]
      rfl
    · rw [if_neg h, if_neg h, ← List.append_assoc]
      unfold run
      rw [foldC_append, ← hD2]
      have w2 : (S.re [] false got).wrong = S.wrong := rfl
      rw [foldC_wrong (by rw [w2]; exact h), w2, if_neg h]
      rfl
theorem cutAll_run (l : List (List UInt8)) : cutAll l = run lex0 (chars l.flatten) := by
  have := cut_step l lex0 [] [] rfl rfl rfl rfl
  simpa [cutAll, lex0] using this
end Go.Proofs.Tryd
