/-
  The plain law of LexCuts, part 7: the whole source.
-/
import Derived.Test.YtpljlblmagodlaaDoorP6
set_option linter.unusedVariables false
set_option linter.unusedSimpArgs false
set_option linter.unusedSimpArgs false
set_option maxRecDepth 100000
set_option maxHeartbeats 4000000
namespace Go.Proofs.Tryd
open Go Go.AL
section
variable {s : LexS} {l : List UInt8} {j : Nat}
theorem nxt_dec (hj : j < l.length) : (nxt l j).1 = (dec (l.drop j)).1 ∧ (nxt l j).2.1 = (dec (l.drop j)).2 := by
  unfold nxt
  rw [if_neg (by omega), Int.toNat_natCast]
  exact ⟨rfl, rfl⟩
theorem atB_drop (hj : j < l.length) : atB (l.drop j) 0 = (l.getD j 0).toNat := by
  unfold atB
  rw [drop_head hj]
theorem char_first (hs : Base s) {st p : Nat} {good : Bool} {n : Nat} (h : s.first p (seg l j (j + n)) good = s.go st (seg l j (j + n))) : s.char p (seg l j (j + n)) good = mid s l j st (j + n) := by
  unfold LexS.char
  rw [stepL_zero hs.state, h]
  have hw : (s.go st (seg l j (j + n))).wrong = 0 := hs.wrong
  rw [if_pos hw]
  unfold LexS.go mid
  rw [hs.held, List.nil_append]
theorem path_one (hj : j < l.length) : Path l j (j + (nxt l j).2.1) [ch1 (l.drop j)] := .cons hj .nil
theorem L_one (hs : Base s) (hj : j < l.length) (hb : l.getD j 0 ∉ ([32, 9, 13, 10] : List UInt8)) : run s (chars (l.drop j)) = fin s l j (oneF l j) := by
  obtain ⟨n1, n2, n3⟩ := nxt_in hj
  obtain ⟨d1, d2⟩ := nxt_dec hj
  have hlow : ∀ c : UInt8, c.toNat < 128 → (nxt l j).1 = c.toNat → l.getD j 0 = c ∧ (nxt l j).2.1 = 1 := by
    intro c hc e
    obtain ⟨e1, e2⟩ := dec_low (y := l.drop j) (by omega)
    rw [atB_drop hj] at e1
    exact ⟨UInt8.toNat.inj (by omega), by omega⟩
  have hbl : (seg l j (j + (nxt l j).2.1)).length = (nxt l j).2.1 := by rw [seg_length n2]; omega
  have b1 : ¬ (nxt l j).1 = 10 := fun e => hb (by rw [(hlow 10 (by decide) e).1]; decide)
  have b2 : ¬ ((nxt l j).1 = 32 ∨ (nxt l j).1 = 9 ∨ (nxt l j).1 = 13) := by
    rintro (e | e | e)
    · exact hb (by rw [(hlow 32 (by decide) e).1]; decide)
    · exact hb (by rw [(hlow 9 (by decide) e).1]; decide)
    · exact hb (by rw [(hlow 13 (by decide) e).1]; decide)
  have hP := path_one hj
  have hfst := LexS.first.eq_1 s (nxt l j).1 (seg l j (j + (nxt l j).2.1)) (nxt l j).2.2
  rw [if_neg b1, if_neg b2] at hfst
  rw [oneF]
  by_cases c1 : (nxt l j).2.2 = true ∧ inTab letterT (nxt l j).1 = true
  · rw [if_pos c1] at hfst ⊢
    rw [run_cons hs.wrong hj, char_first hs hfst]
    exact L_named hs hj _ _ _ hP (by omega) n2 (by omega)
  rw [if_neg c1] at hfst ⊢
  by_cases c2 : 48 ≤ (nxt l j).1 ∧ (nxt l j).1 ≤ 57
  · rw [if_pos c2] at hfst ⊢
    rw [run_cons hs.wrong hj, char_first hs hfst]
    exact L_num hs hj _ _ _ hP (by omega) n2 (by omega)
  rw [if_neg c2] at hfst ⊢
  by_cases c3 : (nxt l j).1 = 34
  · rw [if_pos c3] at hfst ⊢
    rw [run_cons hs.wrong hj, char_first hs hfst]
    exact L_quo hs hj _ _ _ hP (by omega) n2 (by omega)
  rw [if_neg c3] at hfst ⊢
  by_cases c4 : (nxt l j).1 = 39
  · rw [if_pos c4] at hfst ⊢
    rw [run_cons hs.wrong hj, char_first hs hfst]
    exact L_sgl hs hj _ _ hP (by omega) n2 (by omega)
  rw [if_neg c4] at hfst ⊢
  by_cases c5 : (nxt l j).1 = 123
  · rw [if_pos (.inl c5)]
    rw [if_pos c5] at hfst
    have hil : isLine l j = false := by
      unfold isLine
      rw [(hlow 123 (by decide) c5).1]; rfl
    rw [run_cons hs.wrong hj, char_first hs hfst, hil]
    exact L_block hs hj _ _ _ hP (by omega) n2 (by omega)
  rw [if_neg c5] at hfst
  have hbs : sign (seg l j (j + (nxt l j).2.1)) 0 ≠ [] ↔ l.getD j 0 ∈ oneSigns := by
    rw [sign_zero (by omega), sign_head (by omega)]
    have : (seg l j (j + (nxt l j).2.1)).getD 0 0 = l.getD j 0 := by
      rw [seg_eq, List.drop_eq_getElem_cons hj, show (nxt l j).2.1 = ((nxt l j).2.1 - 1) + 1 by omega, List.take_succ_cons]
      simp [hj]
    rw [this]
  have hls : sign l j ≠ [] ↔ l.getD j 0 ∈ oneSigns := by
    rw [sign_at hj, sign_head (by simp; omega), drop_head hj]
  have hone : l.getD j 0 ∈ oneSigns → (nxt l j).2.1 = 1 := fun h => by
    rw [d2, dec_one (by rw [atB_drop hj]; exact one_ascii _ h)]
  by_cases c6 : 2 ≤ (l.drop j).length ∧ (l.drop j).take 2 = [47, 47]
  · rw [if_pos (.inr c6)]
    have hx : l.drop j = l.getD j 0 :: l.drop (j + 1) := by rw [List.drop_eq_getElem_cons hj]; simp [hj]
    have hj1 : j + 1 < l.length := by have := c6.1; simp at this; omega
    have hx1 : l.drop (j + 1) = l.getD (j + 1) 0 :: l.drop (j + 1 + 1) := by rw [List.drop_eq_getElem_cons hj1]; simp [hj1]
    have hc6 := c6.2
    rw [hx, hx1, List.take_succ_cons, List.take_succ_cons, List.take_zero] at hc6
    have hca : l.getD j 0 = 47 := by injection hc6
    have hcb : l.getD (j + 1) 0 = 47 := by injection hc6 with _ h; injection h
    have hm : l.getD j 0 ∈ oneSigns := by rw [hca]; decide
    have hn1 := hone hm
    rw [if_pos (hbs.2 hm)] at hfst
    have hil : isLine l j = true := by unfold isLine; rw [hca]; rfl
    have hch := char_first hs hfst
    rw [run_cons hs.wrong hj, hch, hil, comF]
    rw [hn1] at hP ⊢
    have hd1 : dec (l.drop (j + 1)) = (47, 1) := by
      have h47 : atB (l.drop (j + 1)) 0 = 47 := by rw [atB_drop hj1, hcb]; rfl
      rw [dec_one (by rw [h47]; decide), h47]
    obtain ⟨e1, e2⟩ := nxt_dec hj1
    rw [hd1] at e1 e2
    simp only at e1 e2
    obtain ⟨m1, m2, m3⟩ := nxt_in hj1
    rw [if_neg (by rintro ⟨_, h | h⟩ <;> omega), if_neg (by omega), if_neg (by omega), if_pos (.inl rfl)]
    have hsg1 : seg l j (j + 1) = [47] := by rw [seg_one hj, hca]
    have hsg2 : seg l (j + 1) (j + 1 + (nxt l (j + 1 : Nat)).2.1) = [47] := by rw [e2, seg_one hj1, hcb]
    have hst : (mid s l j 8 (j + 1)).stepL (nxt l (j + 1 : Nat)).1 (seg l (j + 1) (j + 1 + (nxt l (j + 1 : Nat)).2.1)) (nxt l (j + 1 : Nat)).2.2 =
      if seg l j (j + 1) ++ seg l (j + 1) (j + 1 + (nxt l (j + 1 : Nat)).2.1) = [47, 47] then LexS.more { mid s l j 8 (j + 1) with state := 6 } (seg l (j + 1) (j + 1 + (nxt l (j + 1 : Nat)).2.1))
      else if sign (seg l j (j + 1) ++ seg l (j + 1) (j + 1 + (nxt l (j + 1 : Nat)).2.1)) 0 = seg l j (j + 1) ++ seg l (j + 1) (j + 1 + (nxt l (j + 1 : Nat)).2.1) then LexS.more { mid s l j 8 (j + 1) with state := 9 } (seg l (j + 1) (j + 1 + (nxt l (j + 1 : Nat)).2.1))
      else ((mid s l j 8 (j + 1)).tell 6).first (nxt l (j + 1 : Nat)).1 (seg l (j + 1) (j + 1 + (nxt l (j + 1 : Nat)).2.1)) (nxt l (j + 1 : Nat)).2.2 := rfl
    rw [if_pos (by rw [hsg1, hsg2]; rfl), more_eq (by show (seg l j (j + 1)).length + _ ≤ _; rw [hsg1, hsg2]; decide)] at hst
    have hst' : (mid s l j 8 (j + 1)).stepL (nxt l (j + 1 : Nat)).1 (seg l (j + 1) (j + 1 + (nxt l (j + 1 : Nat)).2.1)) (nxt l (j + 1 : Nat)).2.2 = { mid s l j 8 (j + 1) with state := 6, held := seg l j (j + 1) ++ seg l (j + 1) (j + 1 + (nxt l (j + 1 : Nat)).2.1) } := hst
    rw [run_cons (midw hs) hj1, char_on (st' := 6) hs hP hj1 hst']
    exact L_line hs hj _ _ _ (hP.snoc hj1) (by omega) m2 (by omega)
  rw [if_neg (by rintro (h | h); exact c5 h; exact c6 h)]
  by_cases c7 : sign l j ≠ []
  · rw [if_pos c7]
    have hn1 := hone (hls.1 c7)
    rw [if_pos (hbs.2 (hls.1 c7))] at hfst
    rw [run_cons hs.wrong hj, char_first hs hfst, hn1]
    exact L_sign hs hj hn1 c7 c6
  · rw [if_neg c7]
    rw [if_neg (fun h => c7 (hls.2 (hbs.1 h)))] at hfst
    rw [run_fail (S := s) hs.wrong hj (c := 100) (by decide) (S' := s) (pl := s.here) rfl (by rw [stepL_zero hs.state]; exact hfst), fin, if_neg (by simp)]
    simp only [here_nil]
    rfl
/-- Blanks and line ends. -/
theorem L_gap : ∀ (k i : Nat) (s : LexS), Base s → i + k ≤ l.length → (∀ q, i ≤ q → q < i + k → l.getD q 0 ∈ ([32, 9, 13, 10] : List UInt8)) →
    run s (chars (l.drop i)) = run { s with here := adv s.here (seg l i (i + k)), feeds := s.feeds + (seg l i (i + k)).count 10 } (chars (l.drop (i + k)))
  | 0, i, s, hs, h1, h2 => by
    rw [Nat.add_zero, seg_self, adv_nil]
    rfl
  | k + 1, i, s, hs, h1, h2 => by
    have hi : i < l.length := by omega
    have hm := h2 i (Nat.le_refl _) (by omega)
    have hlow : ∀ c ∈ ([32, 9, 13, 10] : List UInt8), c.toNat < 128 ∧ (c.toNat = 10 ∨ c.toNat = 32 ∨ c.toNat = 9 ∨ c.toNat = 13) := by decide
    obtain ⟨hl1, hl2⟩ := hlow _ hm
    obtain ⟨d1, d2⟩ := nxt_dec hi
    have hd : dec (l.drop i) = ((l.getD i 0).toNat, 1) := by rw [dec_one (by rw [atB_drop hi]; exact hl1), atB_drop hi]
    rw [hd] at d1 d2
    simp only at d1 d2
    have hsg := seg_one hi
    have hst : s.stepL (nxt l i).1 (seg l i (i + (nxt l i).2.1)) (nxt l i).2.2 = { s with feeds := s.feeds + (seg l i (i + 1)).count 10 } := by
      rw [stepL_zero hs.state, LexS.first, d1, hsg]
      by_cases hc : (l.getD i 0).toNat = 10
      · have : l.getD i 0 = 10 := UInt8.toNat.inj hc
        rw [if_pos hc, this]; rfl
      · have : List.count 10 [l.getD i 0] = 0 := List.count_eq_zero.2 (by simp only [List.mem_singleton]; intro e; apply hc; rw [← e]; rfl)
        rw [if_neg hc, if_pos (by omega), this]; rfl
    have hch : s.char (nxt l i).1 (seg l i (i + (nxt l i).2.1)) (nxt l i).2.2 = { s with here := adv s.here (seg l i (i + 1)), feeds := s.feeds + (seg l i (i + 1)).count 10 } := by
      unfold LexS.char
      rw [hst]
      have hw : ({ s with feeds := s.feeds + (seg l i (i + 1)).count 10 } : LexS).wrong = 0 := hs.wrong
      rw [if_pos hw, d2]
    rw [run_cons hs.wrong hi, hch, d2, L_gap k (i + 1) { s with here := adv s.here (seg l i (i + 1)), feeds := s.feeds + (seg l i (i + 1)).count 10 } ⟨hs.state, hs.held, hs.wrong, hs.whr⟩ (by omega) (fun q q1 q2 => h2 q (by omega) (by omega))]
    have hle : i + (k + 1) = i + 1 + k := by omega
    have hsa : seg l i (i + 1) ++ seg l (i + 1) (i + 1 + k) = seg l i (i + (k + 1)) := by rw [hle]; exact seg_append (by omega) (by omega)
    have h0 : 0 < (seg l i (i + (k + 1))).length := by rw [seg_length (by omega)]; omega
    have hdy : dec (seg l i (i + (k + 1))) = ((l.getD i 0).toNat, 1) := by
      rw [seg_eq, dec_take (by simp; omega) (by rw [hd]; simp), hd]
    have ha := adv_cons s.here h0
    rw [hdy] at ha
    have t1 : (seg l i (i + (k + 1))).take 1 = seg l i (i + 1) := by rw [← hsa, hsg]; rfl
    have t2 : (seg l i (i + (k + 1))).drop 1 = seg l (i + 1) (i + 1 + k) := by rw [← hsa, hsg]; rfl
    rw [t1, t2] at ha
    rw [ha, ← hle, Nat.add_assoc, ← List.count_append, ← hle] at *
    rw [hsa]
theorem trim_spec (c : List UInt8) : ∀ x : List UInt8, (∀ q, q < x.length - (trimL c x).length → x.getD q 0 ∈ c) ∧ (x.length - (trimL c x).length < x.length → x.getD (x.length - (trimL c x).length) 0 ∉ c)
  | [] => ⟨fun q h => by simp at h, fun h => by simp at h⟩
  | a :: x => by
    have ih := trim_spec c x
    have hle := trimL_le c x
    by_cases ha : a ∈ c
    · have e : trimL c (a :: x) = trimL c x := by unfold trimL; rw [List.dropWhile_cons, if_pos (by simpa using ha)]
      rw [e]
      have e2 : (a :: x).length - (trimL c x).length = (x.length - (trimL c x).length) + 1 := by rw [List.length_cons]; omega
      rw [e2]
      refine ⟨fun q hq => ?_, fun h => ?_⟩
      · cases q with
        | zero => exact ha
        | succ q => exact ih.1 q (by omega)
      · exact ih.2 (by rw [List.length_cons] at h; omega)
    · have e : trimL c (a :: x) = a :: x := by unfold trimL; rw [List.dropWhile_cons, if_neg (by simpa using ha)]
      rw [e, Nat.sub_self]
      exact ⟨fun q hq => by omega, fun _ => ha⟩
theorem gap_spec {i : Nat} (hi : i ≤ l.length) : (∀ q, i ≤ q → q < i + gap l i → l.getD q 0 ∈ ([32, 9, 13, 10] : List UInt8)) ∧ (i + gap l i < l.length → l.getD (i + gap l i) 0 ∉ ([32, 9, 13, 10] : List UInt8)) := by
  have h := trim_spec [32, 9, 13, 10] (l.drop i)
  have hg : ∀ q, (l.drop i).getD q 0 = l.getD (i + q) 0 := fun q => by simp [List.getD, List.getElem?_drop]
  refine ⟨fun q h1 h2 => ?_, fun h1 => ?_⟩
  · have := h.1 (q - i) (by unfold gap at h2; omega)
    rw [hg, show i + (q - i) = q by omega] at this
    exact this
  · have := h.2 (by unfold gap at h1; simp only [List.length_drop] at h1 ⊢; omega)
    rw [hg] at this
    exact this
theorem L_all : ∀ (n i : Nat) (s : LexS), Base s → s.feeds = 0 → i ≤ l.length → l.length < n + i → run s (chars (l.drop i)) = allN l n i s.here s.toks
  | 0, i, s, hs, hf, h1, h2 => by omega
  | n + 1, i, s, hs, hf, h1, h2 => by
    have hg := gap_le l i h1
    obtain ⟨g1, g2⟩ := gap_spec (l := l) h1
    rw [L_gap (gap l i) i s hs hg g1, allN]
    generalize hj : i + gap l i = j at *
    rw [hf, Nat.zero_add]
    have hs' : Base { s with here := adv s.here (seg l i j), feeds := (seg l i j).count 10 } := ⟨hs.state, hs.held, hs.wrong, hs.whr⟩
    by_cases hjl : j = l.length
    · rw [if_pos hjl, List.drop_eq_nil_of_le (by omega), chars_nil, run_end hs'.wrong]
      have he : ({ s with here := adv s.here (seg l i j), feeds := (seg l i j).count 10 } : LexS).endL = { s with here := adv s.here (seg l i j), feeds := (seg l i j).count 10 } := by
        have h0 : ({ s with here := adv s.here (seg l i j), feeds := (seg l i j).count 10 } : LexS).state = 0 := hs.state
        unfold LexS.endL
        rw [h0]
        rfl
      rw [he]
      simp only [hs.wrong, hs.whr]
    · have hjl' : j < l.length := by omega
      rw [if_neg hjl, L_one hs' hjl' (g2 hjl')]
      obtain ⟨o1, o2, o3, o4, o5⟩ := oneF_ok l j hjl'
      generalize oneF l j = x at *
      obtain ⟨kd, e, er⟩ := x
      simp only at o1 o2 o3 o4 o5 ⊢
      rw [fin]
      simp only
      by_cases her : er = 0
      · rw [if_pos her, if_neg (by omega)]
        have hk : ((kd.toNat : Nat) : Int) = kd := by omega
        refine (L_all n e (aft { s with here := adv s.here (seg l i j), feeds := (seg l i j).count 10 } l j kd.toNat e) ⟨rfl, rfl, hs.wrong, hs.whr⟩ rfl o2 (by have := o5 her; omega)).trans ?_
        simp only [aft, hk]
      · rw [if_neg her, if_pos her]
theorem run_all (l : List UInt8) : run lex0 (chars l) = allF l := by
  have := L_all (l := l) (l.length + 1) 0 lex0 ⟨rfl, rfl, rfl, rfl⟩ rfl (Nat.zero_le _) (by omega)
  rw [List.drop_zero] at this
  exact this
/-- THE PLAIN LAW. -/
theorem cuts_law (l : List (List UInt8)) : cutAll l = allF l.flatten := (cutAll_run l).trans (run_all _)
end
end Go.Proofs.Tryd
