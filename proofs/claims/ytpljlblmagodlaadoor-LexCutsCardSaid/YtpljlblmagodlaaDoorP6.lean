/-
  The plain law of LexCuts, part 6: however a source is cut, the tokens are scan's.
-/
import Derived.Test.YtpljlblmagodlaaDoorP5
set_option linter.unusedVariables false
set_option linter.unusedSimpArgs false
set_option linter.unusedSimpArgs false
set_option maxRecDepth 100000
set_option maxHeartbeats 4000000
namespace Go.Proofs.Tryd
open Go Go.AL
theorem idx_mem : ∀ (l : List UInt8) (c : UInt8), 0 ≤ Lib.indexByte l c ↔ c ∈ l
  | [], c => by simp [Lib.indexByte]
  | b :: l, c => by
    have ih := idx_mem l c
    have hg := Lib.indexByte_ge l c
    rw [Lib.indexByte, List.mem_cons]
    by_cases h : b = c
    · subst h; simp
    · have h' : (b == c) = false := by simp [h]
      rw [h', if_neg (by simp)]
      by_cases h2 : Lib.indexByte l c = -1
      · rw [h2]
        simp only [beq_self_eq_true, if_true]
        constructor
        · intro h3; omega
        · rintro (h3 | h3)
          · exact absurd h3.symm h
          · have := ih.2 h3; omega
      · have h3 : (Lib.indexByte l c == -1) = false := by simp [h2]
        rw [h3, if_neg (by simp)]
        constructor
        · intro _; right; exact ih.1 (by omega)
        · rintro (h4 | h4)
          · exact absurd h4.symm h
          · omega
theorem one_ascii : ∀ c ∈ oneSigns, c.toNat < 128 := by decide
theorem two_one : ∀ y ∈ twoSigns, y.getD 0 0 ∈ oneSigns ∧ y.length = 2 ∧ (y.getD 1 0).toNat < 128 := by decide
theorem fp_some : ∀ (ks : List (List UInt8)) (x y : List UInt8), firstPre ks x = some y → y ∈ ks ∧ y.length ≤ x.length ∧ x.take y.length = y
  | [], x, y, h => by simp [firstPre] at h
  | k :: ks, x, y, h => by
    rw [firstPre] at h
    split at h
    · cases h; exact ⟨List.mem_cons_self, by assumption⟩
    · have := fp_some ks x y h; exact ⟨List.mem_cons_of_mem _ this.1, this.2⟩
theorem fp_two {x y : List UInt8} (h : y ∈ twoSigns) (h1 : 2 ≤ x.length) (h2 : x.take 2 = y) : firstPre twoSigns x = some y := by
  subst h2
  have hl : ∀ k ∈ twoSigns, k.length = 2 := by decide
  have key : ∀ ks : List (List UInt8), (∀ k ∈ ks, k.length = 2) → x.take 2 ∈ ks → firstPre ks x = some (x.take 2) := by
    intro ks
    induction ks with
    | nil => intro _ h; simp at h
    | cons k ks ih =>
      intro hk hm
      have hk0 := hk k List.mem_cons_self
      rw [firstPre]
      by_cases hc : k.length ≤ x.length ∧ x.take k.length = k
      · rw [if_pos hc, ← hc.2, hk0]
      · rw [if_neg hc]
        refine ih (fun q hq => hk q (List.mem_cons_of_mem _ hq)) ?_
        rcases List.mem_cons.1 hm with h | h
        · exact absurd ⟨by omega, by rw [hk0]; exact h⟩ hc
        · exact h
  exact key twoSigns hl h
theorem sign_head {x : List UInt8} (h0 : 0 < x.length) : signR x ≠ [] ↔ x.getD 0 0 ∈ oneSigns := by
  unfold signR
  cases hf : firstPre twoSigns x with
  | some y =>
    obtain ⟨m1, m2, m3⟩ := fp_some _ _ _ hf
    obtain ⟨t1, t2, t3⟩ := two_one y m1
    simp only
    have e : x.getD 0 0 = y.getD 0 0 := by
      rw [← m3, t2]
      cases x with
      | nil => simp at h0
      | cons a x => rfl
    constructor
    · intro _; rw [e]; exact t1
    · rintro _ rfl; simp at t2
  | none =>
    simp only [idx_mem]
    by_cases hm : x.getD 0 0 ∈ oneSigns
    · rw [if_pos hm]
      refine ⟨fun _ => hm, fun _ h => ?_⟩
      have := congrArg List.length h
      rw [List.length_take, List.length_nil] at this
      omega
    · rw [if_neg hm]
      exact ⟨fun h => absurd rfl h, fun h => absurd h hm⟩
theorem sign_at {l : List UInt8} {j : Nat} (h : j < l.length) : sign l j = signR (l.drop j) := by
  unfold sign
  rw [if_neg (by omega), Int.toNat_natCast]
theorem sign_zero {b : List UInt8} (h : 0 < b.length) : sign b 0 = signR b := by
  have := sign_at (l := b) (j := 0) h
  simpa using this
theorem dec_one {y : List UInt8} (h : atB y 0 < 128) : dec y = (atB y 0, 1) := (DecV.one h).dec
theorem dec_low {y : List UInt8} (h : (dec y).1 < 128) : (dec y).1 = atB y 0 ∧ (dec y).2 = 1 := by
  rcases dec_cases y with hv | ⟨e, _⟩
  · generalize hd : dec y = d at hv h ⊢
    obtain ⟨c, n⟩ := d
    simp only at hv h ⊢
    cases hv with
    | one => exact ⟨rfl, rfl⟩
    | two g1 g2 g3 => omega
    | three g1 g2 g3 g4 => omega
    | four g1 g2 g3 g4 g5 => omega
  · rw [e] at h; simp only at h; omega
section
variable {s : LexS} {l : List UInt8} {j : Nat}
theorem seg_one {i : Nat} (h : i < l.length) : seg l i (i + 1) = [l.getD i 0] := by
  rw [seg_eq, List.drop_eq_getElem_cons h, List.take_succ_cons, List.take_zero, show l.getD i 0 = l[i] by simp [h]]
theorem drop_head {i : Nat} (h : i < l.length) : (l.drop i).getD 0 0 = l.getD i 0 := by
  rw [List.drop_eq_getElem_cons h]; simp [h]
theorem L_sign (hs : Base s) (hj : j < l.length) (hn : (nxt l j).2.1 = 1) (hne : sign l j ≠ []) (hnl : ¬ (2 ≤ (l.drop j).length ∧ (l.drop j).take 2 = [47, 47])) :
    run (mid s l j 8 (j + 1)) (chars (l.drop (j + 1))) = fin s l j (6, j + (sign l j).length, 0) := by
  have hP1 : Path l j (j + 1) [ch1 (l.drop j)] := by have := Path.cons hj (.nil (j := j + (nxt l j).2.1)); rw [hn] at this; exact this
  have hseg := seg_one hj
  have hx : l.drop j = l.getD j 0 :: l.drop (j + 1) := by rw [List.drop_eq_getElem_cons hj]; simp [hj]
  rw [sign_at hj] at hne ⊢
  have hhd := (sign_head (x := l.drop j) (by simp; omega)).1 hne
  rw [drop_head hj] at hhd
  rw [fin, if_pos rfl]
  simp only
  have tk6 : ((6 : Int)).toNat = 6 := rfl
  rw [tk6]
  by_cases he : j + 1 < l.length
  · obtain ⟨n1, n2, n3⟩ := nxt_in he
    have hbl : (seg l (j + 1) (j + 1 + (nxt l (j + 1 : Nat)).2.1)).length = (nxt l (j + 1 : Nat)).2.1 := by rw [seg_length n2]; omega
    have hmh : (mid s l j 8 (j + 1)).held = [l.getD j 0] := hseg
    have hst : (mid s l j 8 (j + 1)).stepL (nxt l (j + 1 : Nat)).1 (seg l (j + 1) (j + 1 + (nxt l (j + 1 : Nat)).2.1)) (nxt l (j + 1 : Nat)).2.2 =
      if (mid s l j 8 (j + 1)).held ++ seg l (j + 1) (j + 1 + (nxt l (j + 1 : Nat)).2.1) = [47, 47] then LexS.more { mid s l j 8 (j + 1) with state := 6 } (seg l (j + 1) (j + 1 + (nxt l (j + 1 : Nat)).2.1))
      else if sign ((mid s l j 8 (j + 1)).held ++ seg l (j + 1) (j + 1 + (nxt l (j + 1 : Nat)).2.1)) 0 = (mid s l j 8 (j + 1)).held ++ seg l (j + 1) (j + 1 + (nxt l (j + 1 : Nat)).2.1) then LexS.more { mid s l j 8 (j + 1) with state := 9 } (seg l (j + 1) (j + 1 + (nxt l (j + 1 : Nat)).2.1))
      else ((mid s l j 8 (j + 1)).tell 6).first (nxt l (j + 1 : Nat)).1 (seg l (j + 1) (j + 1 + (nxt l (j + 1 : Nat)).2.1)) (nxt l (j + 1 : Nat)).2.2 := rfl
    rw [hmh] at hst
    have hs2 : seg l (j + 1) (j + 1 + (nxt l (j + 1 : Nat)).2.1) = (l.drop (j + 1)).take (nxt l (j + 1 : Nat)).2.1 := seg_eq _ _ _
    have htwo : [l.getD j 0] ++ seg l (j + 1) (j + 1 + (nxt l (j + 1 : Nat)).2.1) = (l.drop j).take (1 + (nxt l (j + 1 : Nat)).2.1) := by
      rw [hs2, hx, Nat.add_comm 1, List.take_succ_cons]; rfl
    have htl : ([l.getD j 0] ++ seg l (j + 1) (j + 1 + (nxt l (j + 1 : Nat)).2.1)).length = 1 + (nxt l (j + 1 : Nat)).2.1 := by rw [List.length_append, hbl]; rfl
    have hdl : 2 ≤ (l.drop j).length := by simp; omega
    rw [if_neg (fun h => by
      have h1 := congrArg List.length h
      rw [htl] at h1
      have h1' : 1 + (nxt l (j + 1 : Nat)).2.1 = 2 := h1
      have h2 : (nxt l (j + 1 : Nat)).2.1 = 1 := by omega
      rw [htwo, h2] at h
      exact hnl ⟨hdl, h⟩)] at hst
    rw [sign_zero (by rw [htl]; omega)] at hst
    by_cases ht : signR ([l.getD j 0] ++ seg l (j + 1) (j + 1 + (nxt l (j + 1 : Nat)).2.1)) = [l.getD j 0] ++ seg l (j + 1) (j + 1 + (nxt l (j + 1 : Nat)).2.1)
    · rw [if_pos ht] at hst
      have hlen2 := sign_len ([l.getD j 0] ++ seg l (j + 1) (j + 1 + (nxt l (j + 1 : Nat)).2.1)) 0
      rw [sign_zero (by rw [htl]; omega), ht, htl] at hlen2
      have h2 : (nxt l (j + 1 : Nat)).2.1 = 1 := by omega
      have hsr : signR (l.drop j) = (l.drop j).take 2 := by
        rw [htwo, h2] at ht
        have hf : firstPre twoSigns ((l.drop j).take 2) = some ((l.drop j).take 2) := by
          unfold signR at ht
          cases hf : firstPre twoSigns ((l.drop j).take 2) with
          | some y => rw [hf] at ht; simp only at ht; rw [ht]
          | none =>
            exfalso
            rw [hf] at ht
            simp only at ht
            split at ht
            · have := congrArg List.length ht; simp at this; omega
            · have := congrArg List.length ht; simp at this; omega
        obtain ⟨m1, m2, m3⟩ := fp_some _ _ _ hf
        unfold signR
        rw [fp_two m1 hdl rfl]
      rw [hsr]
      have hsl : ((l.drop j).take 2).length = 2 := by rw [List.length_take]; omega
      rw [hsl]
      rw [more_eq (by show (seg l j (j + 1)).length + _ ≤ _; rw [hbl, hseg]; show 1 + _ ≤ 65535; omega)] at hst
      have hst' : (mid s l j 8 (j + 1)).stepL (nxt l (j + 1 : Nat)).1 (seg l (j + 1) (j + 1 + (nxt l (j + 1 : Nat)).2.1)) (nxt l (j + 1 : Nat)).2.2 = { mid s l j 8 (j + 1) with state := 9, held := seg l j (j + 1) ++ seg l (j + 1) (j + 1 + (nxt l (j + 1 : Nat)).2.1) } := hst
      rw [run_cons (midw hs) he, char_on (st' := 9) hs hP1 he hst', h2]
      by_cases he2 : j + 1 + 1 < l.length
      · have hst2 : (mid s l j 9 (j + 1 + 1)).stepL (nxt l (j + 1 + 1 : Nat)).1 (seg l (j + 1 + 1) (j + 1 + 1 + (nxt l (j + 1 + 1 : Nat)).2.1)) (nxt l (j + 1 + 1 : Nat)).2.2 = ((mid s l j 9 (j + 1 + 1)).tell 6).first (nxt l (j + 1 + 1 : Nat)).1 (seg l (j + 1 + 1) (j + 1 + 1 + (nxt l (j + 1 + 1 : Nat)).2.1)) (nxt l (j + 1 + 1 : Nat)).2.2 := rfl
        rw [tell_mid 6 (by decide)] at hst2
        rw [run_again hs he2 hst2]
      · rw [List.drop_eq_nil_of_le (show l.length ≤ j + 1 + 1 by omega), chars_nil]
        have hen : (mid s l j 9 (j + 1 + 1)).endL = aft s l j 6 (j + 1 + 1) := by
          rw [← tell_mid (st := 9) 6 (by decide)]; rfl
        rw [run_stop hs hen]
    · rw [if_neg ht, tell_mid 6 (by decide)] at hst
      have hf : firstPre twoSigns (l.drop j) = none := by
        cases hf : firstPre twoSigns (l.drop j) with
        | none => rfl
        | some y =>
          exfalso
          obtain ⟨m1, m2, m3⟩ := fp_some _ _ _ hf
          obtain ⟨t1, t2, t3⟩ := two_one y m1
          rw [t2] at m3
          have hd1 : atB (l.drop (j + 1)) 0 < 128 := by
            have : y.getD 1 0 = (l.drop (j + 1)).getD 0 0 := by rw [← m3, hx]; simp [List.getD, List.getElem?_take]
            unfold atB
            rw [← this]; exact t3
          have hn1 : (nxt l (j + 1 : Nat)).2.1 = 1 := by rw [(nxt_ch he).2, dec_one hd1]
          rw [htwo, hn1] at ht
          apply ht
          rw [m3]
          unfold signR
          rw [fp_two m1 (by omega) (by rw [List.take_of_length_le (by omega)])]
      have hsr : signR (l.drop j) = [l.getD j 0] := by
        unfold signR
        rw [hf]
        simp only
        rw [if_pos ((idx_mem _ _).2 (by rw [drop_head hj]; exact hhd)), hx]; rfl
      rw [hsr, run_again hs he hst]
      rfl
  · have hx1 : l.drop j = [l.getD j 0] := by rw [hx, List.drop_eq_nil_of_le (by omega)]
    have hsr : signR (l.drop j) = [l.getD j 0] := by
      rw [hx1]
      have hf : firstPre twoSigns [l.getD j 0] = none := by
        cases hf : firstPre twoSigns [l.getD j 0] with
        | none => rfl
        | some y =>
          obtain ⟨m1, m2, m3⟩ := fp_some _ _ _ hf
          have := (two_one y m1).2.1
          simp at m2; omega
      unfold signR
      rw [hf]
      simp only
      rw [if_pos (show 0 ≤ Lib.indexByte oneSigns ([l.getD j 0].getD 0 0) from (idx_mem _ _).2 hhd)]; rfl
    rw [hsr]
    have hen : (mid s l j 8 (j + 1)).endL = aft s l j 6 (j + 1) := by
      rw [← tell_mid (st := 8) 6 (by decide)]; rfl
    rw [List.drop_eq_nil_of_le (show l.length ≤ j + 1 by omega), chars_nil, run_stop hs hen]
    show _ = run _ (chars (l.drop (j + 1)))
    rw [List.drop_eq_nil_of_le (show l.length ≤ j + 1 by omega)]
    rfl
end
end Go.Proofs.Tryd
