/-
  The plain law of LexCuts, part 5: texts, comments, signs.
-/
import Derived.Test.YtpljlblmagodlaaDoorP4
set_option linter.unusedVariables false
set_option linter.unusedSimpArgs false
set_option linter.unusedSimpArgs false
set_option maxRecDepth 100000
set_option maxHeartbeats 4000000
namespace Go.Proofs.Tryd
open Go Go.AL
section
variable {s : LexS} {l : List UInt8} {j : Nat}
theorem L_quo (hs : Base s) (hj : j < l.length) : ∀ (n e : Nat) (cs : List Ch), Path l j e cs → j < e → e ≤ l.length → l.length < n + e → run (mid s l j 3 e) (chars (l.drop e)) = fin s l j (quoF l j n e)
  | 0, e, cs, hP, h1, h2, h3 => by omega
  | n + 1, e, cs, hP, h1, h2, h3 => by
    have hml := mid_len (s := s) (st := 3) hP.le.1 h2
    rw [quoF]
    by_cases he : e < l.length
    · obtain ⟨n1, n2, n3⟩ := nxt_in he
      have hbl : (seg l e (e + (nxt l e).2.1)).length = (nxt l e).2.1 := by rw [seg_length n2]; omega
      have hst : (mid s l j 3 e).stepL (nxt l e).1 (seg l e (e + (nxt l e).2.1)) (nxt l e).2.2 = (mid s l j 3 e).quoted (nxt l e).1 (seg l e (e + (nxt l e).2.1)) (nxt l e).2.2 := rfl
      rw [LexS.quoted] at hst
      by_cases hp : (nxt l e).1 = 10
      · rw [if_pos (.inr hp)]
        rw [if_pos hp] at hst
        rw [run_fail (midw hs) he (c := 101) (by decide) rfl hst, fin, if_neg (by simp)]
        simp only [here_nil]
        rfl
      rw [if_neg (by omega)]
      rw [if_neg hp, hml, hbl] at hst
      by_cases hm : 65535 < e + (nxt l e).2.1 - j
      · rw [if_pos hm]
        rw [if_pos (by omega)] at hst
        rw [run_fail (midw hs) he (c := 103) (by decide) rfl hst, fin, if_neg (by simp)]
        simp only [here_nil]
        rfl
      rw [if_neg hm]
      rw [if_neg (by omega)] at hst
      by_cases hc : ctl (nxt l e).1 (nxt l e).2.2 = true
      · rw [if_pos hc]
        rw [if_pos (.inl hc)] at hst
        rw [run_fail (midw hs) he (c := 102) (by decide) (S' := { mid s l j 3 e with held := (mid s l j 3 e).held ++ seg l e (e + (nxt l e).2.1) }) rfl hst, fin, if_neg (by simp)]
        rfl
      rw [if_neg hc]
      have q4 : ¬ (mid s l j 3 e).state = 4 := by show ¬ (3 : Nat) = 4; decide
      have q5 : ¬ (mid s l j 3 e).state = 5 := by show ¬ (3 : Nat) = 5; decide
      rw [if_neg (by rintro (h | h | h); exact hc h; exact q4 h.1; exact q5 h.1), if_neg q4, if_neg q5] at hst
      by_cases hq : (nxt l e).1 = 34
      · rw [if_pos hq]
        rw [if_pos hq] at hst
        rw [run_last (st' := 3) hs hP he (k := 4) (by decide) hst, fin, if_pos rfl]
        rfl
      · rw [if_neg hq]
        rw [if_neg hq] at hst
        rw [run_cons (midw hs) he, char_on (st' := 3) hs hP he hst]
        exact L_quo hs hj n _ _ (hP.snoc he) (by omega) n2 (by omega)
    · rw [nxt_end (by omega), if_pos (.inl rfl), List.drop_eq_nil_of_le (by omega), chars_nil, run_open hs rfl, fin, if_neg (by simp)]
      simp only [here_nil]
      rfl
theorem L_sgl (hs : Base s) (hj : j < l.length) (e : Nat) (cs : List Ch) (hP : Path l j e cs) (h1 : j < e) (h2 : e ≤ l.length) (h3 : e ≤ j + 4) : run (mid s l j 4 e) (chars (l.drop e)) = fin s l j (sglF l j e) := by
  have hml := mid_len (s := s) (st := 4) hP.le.1 h2
  rw [sglF]
  by_cases he : e < l.length
  · obtain ⟨n1, n2, n3⟩ := nxt_in he
    have hbl : (seg l e (e + (nxt l e).2.1)).length = (nxt l e).2.1 := by rw [seg_length n2]; omega
    have hst : (mid s l j 4 e).stepL (nxt l e).1 (seg l e (e + (nxt l e).2.1)) (nxt l e).2.2 = (mid s l j 4 e).quoted (nxt l e).1 (seg l e (e + (nxt l e).2.1)) (nxt l e).2.2 := rfl
    rw [LexS.quoted] at hst
    by_cases hp : (nxt l e).1 = 10
    · rw [if_pos (.inr hp)]
      rw [if_pos hp] at hst
      rw [run_fail (midw hs) he (c := 101) (by decide) rfl hst, fin, if_neg (by simp)]
      simp only [here_nil]
      rfl
    rw [if_neg (by omega)]
    rw [if_neg hp, hml, hbl, if_neg (by omega)] at hst
    by_cases hc : (nxt l e).1 = 39 ∨ ctl (nxt l e).1 (nxt l e).2.2 = true
    · rw [if_pos hc]
      rw [if_pos (by rcases hc with h | h; exact .inr (.inl ⟨rfl, h⟩); exact .inl h)] at hst
      rw [run_fail (midw hs) he (c := 102) (by decide) (S' := { mid s l j 4 e with held := (mid s l j 4 e).held ++ seg l e (e + (nxt l e).2.1) }) rfl hst, fin, if_neg (by simp)]
      rfl
    rw [if_neg hc]
    have q5 : ¬ (mid s l j 4 e).state = 5 := by show ¬ (4 : Nat) = 5; decide
    rw [if_neg (by rintro (h | h | h); exact hc (.inr h); exact hc (.inl h.2); exact q5 h.1), if_pos (show (mid s l j 4 e).state = 4 from rfl)] at hst
    rw [run_cons (midw hs) he, char_on (st' := 5) hs hP he hst]
    have hP2 := hP.snoc he
    generalize hee : e + (nxt l e).2.1 = e2 at *
    have hml2 := mid_len (s := s) (st := 5) hP2.le.1 n2
    by_cases he2 : e2 < l.length
    · obtain ⟨m1, m2, m3⟩ := nxt_in he2
      have hbl2 : (seg l e2 (e2 + (nxt l e2).2.1)).length = (nxt l e2).2.1 := by rw [seg_length m2]; omega
      have hst2 : (mid s l j 5 e2).stepL (nxt l e2).1 (seg l e2 (e2 + (nxt l e2).2.1)) (nxt l e2).2.2 = (mid s l j 5 e2).quoted (nxt l e2).1 (seg l e2 (e2 + (nxt l e2).2.1)) (nxt l e2).2.2 := rfl
      rw [LexS.quoted] at hst2
      by_cases hp2 : (nxt l e2).1 = 10
      · rw [if_pos (.inr hp2)]
        rw [if_pos hp2] at hst2
        rw [run_fail (midw hs) he2 (c := 101) (by decide) rfl hst2, fin, if_neg (by simp)]
        simp only [here_nil]
        rfl
      rw [if_neg (by omega)]
      rw [if_neg hp2, hml2, hbl2, if_neg (by omega)] at hst2
      by_cases hq : (nxt l e2).1 = 39
      · rw [if_pos hq]
        have hnc : ¬ ctl (nxt l e2).1 (nxt l e2).2.2 = true := by simp [ctl]; omega
        have q4 : ¬ (mid s l j 5 e2).state = 4 := by show ¬ (5 : Nat) = 4; decide
        rw [if_neg (by rintro (h | h | h); exact hnc h; exact q4 h.1; exact h.2 hq), if_neg q4, if_pos (show (mid s l j 5 e2).state = 5 from rfl)] at hst2
        rw [run_last (st' := 5) hs hP2 he2 (k := 5) (by decide) hst2, fin, if_pos rfl]
        rfl
      · rw [if_neg hq]
        rw [if_pos (.inr (.inr ⟨rfl, hq⟩))] at hst2
        rw [run_fail (midw hs) he2 (c := 102) (by decide) (S' := { mid s l j 5 e2 with held := (mid s l j 5 e2).held ++ seg l e2 (e2 + (nxt l e2).2.1) }) rfl hst2, fin, if_neg (by simp)]
        rfl
    · rw [nxt_end (e := e2) (by omega), if_pos (.inl rfl), List.drop_eq_nil_of_le (by omega), chars_nil, run_open hs rfl, fin, if_neg (by simp)]
      simp only [here_nil]
      rfl
  · rw [nxt_end (e := e) (by omega), if_pos (.inl rfl), List.drop_eq_nil_of_le (by omega), chars_nil, run_open hs rfl, fin, if_neg (by simp)]
    simp only [here_nil]
    rfl
theorem L_line (hs : Base s) (hj : j < l.length) : ∀ (n e : Nat) (cs : List Ch), Path l j e cs → j < e → e ≤ l.length → l.length < n + e → run (mid s l j 6 e) (chars (l.drop e)) = fin s l j (comF l true j n e)
  | 0, e, cs, hP, h1, h2, h3 => by omega
  | n + 1, e, cs, hP, h1, h2, h3 => by
    have hml := mid_len (s := s) (st := 6) hP.le.1 h2
    rw [comF]
    by_cases he : e < l.length
    · obtain ⟨n1, n2, n3⟩ := nxt_in he
      have hbl : (seg l e (e + (nxt l e).2.1)).length = (nxt l e).2.1 := by rw [seg_length n2]; omega
      have hst : (mid s l j 6 e).stepL (nxt l e).1 (seg l e (e + (nxt l e).2.1)) (nxt l e).2.2 = if (nxt l e).1 ≠ 10 then (mid s l j 6 e).more (seg l e (e + (nxt l e).2.1)) else ((mid s l j 6 e).tell 7).first (nxt l e).1 (seg l e (e + (nxt l e).2.1)) (nxt l e).2.2 := rfl
      by_cases hp : (nxt l e).1 = 10
      · rw [if_pos ⟨rfl, .inr hp⟩]
        rw [if_neg (by simp [hp]), tell_mid 7 (by decide)] at hst
        rw [run_again hs he hst, fin, if_pos rfl]
        rfl
      rw [if_neg (by rintro ⟨_, h | h⟩ <;> omega), if_neg (by omega)]
      rw [if_pos hp] at hst
      by_cases hm : 65535 < e + (nxt l e).2.1 - j
      · rw [if_pos hm]
        rw [more_bad (by rw [hml, hbl]; omega)] at hst
        rw [run_fail (midw hs) he (c := 103) (by decide) rfl hst, fin, if_neg (by simp)]
        simp only [here_nil]
        rfl
      rw [if_neg hm, if_pos (.inl rfl)]
      rw [more_eq (by rw [hml, hbl]; omega)] at hst
      rw [run_cons (midw hs) he, char_on (st' := 6) hs hP he hst]
      exact L_line hs hj n _ _ (hP.snoc he) (by omega) n2 (by omega)
    · rw [nxt_end (by omega), if_pos ⟨rfl, .inl rfl⟩, List.drop_eq_nil_of_le (by omega), chars_nil]
      have hen : (mid s l j 6 e).endL = aft s l j 7 e := by
        rw [← tell_mid (st := 6) 7 (by decide)]; rfl
      rw [run_stop hs hen, fin, if_pos rfl]
      simp only
      rw [List.drop_eq_nil_of_le (by omega)]
      rfl
theorem L_block (hs : Base s) (hj : j < l.length) : ∀ (n e : Nat) (cs : List Ch), Path l j e cs → j < e → e ≤ l.length → l.length < n + e → run (mid s l j 7 e) (chars (l.drop e)) = fin s l j (comF l false j n e)
  | 0, e, cs, hP, h1, h2, h3 => by omega
  | n + 1, e, cs, hP, h1, h2, h3 => by
    have hml := mid_len (s := s) (st := 7) hP.le.1 h2
    rw [comF, if_neg (by simp)]
    by_cases he : e < l.length
    · obtain ⟨n1, n2, n3⟩ := nxt_in he
      have hbl : (seg l e (e + (nxt l e).2.1)).length = (nxt l e).2.1 := by rw [seg_length n2]; omega
      have hst : (mid s l j 7 e).stepL (nxt l e).1 (seg l e (e + (nxt l e).2.1)) (nxt l e).2.2 = if (mid s l j 7 e).held.length + (seg l e (e + (nxt l e).2.1)).length ≤ 65535 ∧ (nxt l e).1 = 125 then ((mid s l j 7 e).more (seg l e (e + (nxt l e).2.1))).tell 8 else (mid s l j 7 e).more (seg l e (e + (nxt l e).2.1)) := rfl
      rw [if_neg (by omega)]
      by_cases hm : 65535 < e + (nxt l e).2.1 - j
      · rw [if_pos hm]
        rw [if_neg (by rw [hml, hbl]; omega), more_bad (by rw [hml, hbl]; omega)] at hst
        rw [run_fail (midw hs) he (c := 103) (by decide) rfl hst, fin, if_neg (by simp)]
        simp only [here_nil]
        rfl
      rw [if_neg hm]
      rw [more_eq (by rw [hml, hbl]; omega)] at hst
      by_cases hq : (nxt l e).1 = 125
      · rw [if_neg (by rintro (h | h); cases h; exact h hq)]
        rw [if_pos (by rw [hml, hbl]; omega)] at hst
        rw [run_last (st' := 7) hs hP he (k := 8) (by decide) hst, fin, if_pos rfl]
        rfl
      · rw [if_pos (.inr hq)]
        rw [if_neg (by omega)] at hst
        rw [run_cons (midw hs) he, char_on (st' := 7) hs hP he hst]
        exact L_block hs hj n _ _ (hP.snoc he) (by omega) n2 (by omega)
    · rw [nxt_end (by omega), if_pos rfl, List.drop_eq_nil_of_le (by omega), chars_nil, run_open hs rfl, fin, if_neg (by simp)]
      simp only [here_nil]
      rfl
end
end Go.Proofs.Tryd
