/-
  The plain law of LexCuts, part 3: places, along characters.
-/
import Derived.Test.YtpljlblmagodlaaDoorP2
set_option linter.unusedVariables false
set_option linter.unusedSimpArgs false
set_option linter.unusedSimpArgs false
set_option maxRecDepth 100000
set_option maxHeartbeats 4000000
namespace Go.Proofs.Tryd
open Go Go.AL
theorem lastB_append (a b : List UInt8) (c : UInt8) : ∀ n, lastB (a ++ b) c (a.length + n) = if 0 ≤ lastB b c n then a.length + lastB b c n else lastB a c a.length
  | 0 => by
    have key : ∀ m, m ≤ a.length → lastB (a ++ b) c m = lastB a c m := by
      intro m
      induction m with
      | zero => intro _; rfl
      | succ m ih =>
        intro h
        have e : (a ++ b).getD m 0 = a.getD m 0 := by simp [List.getD, List.getElem?_append, show m < a.length by omega]
        simp only [lastB, e, ih (by omega)]
    rw [Nat.add_zero, key _ (Nat.le_refl _)]
    simp [lastB]
  | n + 1 => by
    have ih := lastB_append a b c n
    have e : (a ++ b).getD (a.length + n) 0 = b.getD n 0 := by
      have : ¬ a.length + n < a.length := by omega
      simp [List.getD, List.getElem?_append, this]
    rw [← Nat.add_assoc, lastB, e, lastB]
    by_cases h : b.getD n 0 = c
    · rw [if_pos h, if_pos h, if_pos (by omega)]; omega
    · rw [if_neg h, if_neg h, ih]
theorem lastB_none (b : List UInt8) (c : UInt8) : ∀ n, n ≤ b.length → (0 ≤ lastB b c n ↔ 0 < (b.take n).count c)
  | 0, _ => by simp [lastB]
  | n + 1, h => by
    have ih := lastB_none b c n (by omega)
    have e : b.take (n + 1) = b.take n ++ [b.getD n 0] := by
      rw [List.take_add_one, List.getElem?_eq_getElem (show n < b.length by omega), show b.getD n 0 = b[n] by simp [show n < b.length by omega]]; rfl
    rw [lastB, e, List.count_append]
    by_cases hc : b.getD n 0 = c
    · rw [if_pos hc, hc]; simp
    · rw [if_neg hc, ih]
      have : List.count c [b.getD n 0] = 0 := List.count_eq_zero.2 (by simp; exact fun e => hc e.symm)
      omega
theorem lastNl_none {b : List UInt8} (h : b.count 10 = 0) : lastNl b = 0 := by
  have h1 := lastB_none b 10 b.length (Nat.le_refl _)
  rw [List.take_length] at h1
  have := (lastB_ge b 10 b.length).1
  unfold lastNl
  omega
theorem lastNl_append (a b : List UInt8) : lastNl (a ++ b) = if b.count 10 = 0 then lastNl a else a.length + lastNl b := by
  have h1 := lastB_none b 10 b.length (Nat.le_refl _)
  rw [List.take_length] at h1
  have h2 := lastB_append a b 10 b.length
  unfold lastNl
  rw [List.length_append, h2]
  by_cases h : b.count 10 = 0
  · rw [if_pos h, if_neg (by omega)]
  · rw [if_neg h, if_pos (by omega)]; omega
/-- A line feed is a character by itself. -/
theorem char_nl {y : List UInt8} (h0 : 0 < y.length) : ((y.take (dec y).2).count 10 = 0 ∧ (dec y).1 ≠ 10) ∨ (y.take (dec y).2 = [10] ∧ dec y = (10, 1)) := by
  have hat : ∀ k, k < y.length → y.getD k 0 = y[k]?.getD 0 := fun k _ => rfl
  have key : ∀ n, (∀ k, k < n → atB y k ≠ 10) → n ≤ y.length → (y.take n).count 10 = 0 := by
    intro n hn hl
    refine List.count_eq_zero.2 fun hm => ?_
    obtain ⟨k, hk, e⟩ := List.getElem_of_mem hm
    rw [List.length_take] at hk
    rw [List.getElem_take] at e
    refine hn k (by omega) ?_
    simp [atB, List.getD, show k < y.length by omega, e]
  have hle := dec_le h0
  rcases dec_cases y with hv | ⟨e, h1, _⟩
  · generalize hd : dec y = d at hv hle ⊢
    obtain ⟨c, n⟩ := d
    simp only at hv hle ⊢
    cases hv with
    | one h =>
      by_cases hx : atB y 0 = 10
      · right
        refine ⟨?_, by rw [hx]⟩
        obtain ⟨a, t, rfl⟩ : ∃ a t, y = a :: t := by cases y with
          | nil => simp at h0
          | cons a t => exact ⟨a, t, rfl⟩
        have : a = 10 := UInt8.toNat.inj (by simpa [atB] using hx)
        simp [this]
      · left; exact ⟨key 1 (fun k hk => by rw [show k = 0 by omega]; exact hx) hle, hx⟩
    | two g1 g2 g3 =>
      left
      refine ⟨key 2 (fun k hk => ?_) hle, by omega⟩
      rcases (show k = 0 ∨ k = 1 by omega) with rfl | rfl <;> omega
    | three g1 g2 g3 g4 =>
      left
      refine ⟨key 3 (fun k hk => ?_) hle, by omega⟩
      rcases (show k = 0 ∨ k = 1 ∨ k = 2 by omega) with rfl | rfl | rfl <;> omega
    | four g1 g2 g3 g4 g5 =>
      left
      refine ⟨key 4 (fun k hk => ?_) hle, by omega⟩
      rcases (show k = 0 ∨ k = 1 ∨ k = 2 ∨ k = 3 by omega) with rfl | rfl | rfl | rfl <;> omega
  · left
    rw [e]
    exact ⟨key 1 (fun k hk => by rw [show k = 0 by omega]; omega) (by omega), by simp⟩
theorem count_char {y : List UInt8} (h0 : 0 < y.length) : count (y.take (dec y).2) = 1 := by
  have hp := dec_pos y
  have hle := dec_le h0
  have hl : (y.take (dec y).2).length = (dec y).2 := by rw [List.length_take]; omega
  rw [count_step (by omega), dec_take h0 (Nat.le_refl _), List.drop_eq_nil_of_le (by omega), count_nil]
/-- A place goes on character by character. -/
theorem adv_cons (p : Pl) {y : List UInt8} (h0 : 0 < y.length) : adv (adv p (y.take (dec y).2)) (y.drop (dec y).2) = adv p y := by
  have hle := dec_le h0
  have hy : y.take (dec y).2 ++ y.drop (dec y).2 = y := List.take_append_drop _ _
  have hcnt := count_step h0
  have hc1 := count_char h0
  have hnl := char_nl h0
  generalize hb : y.take (dec y).2 = b at *
  generalize hr : y.drop (dec y).2 = r at *
  have hlen : y.length = b.length + r.length := by rw [← hy, List.length_append]
  have hct : y.count 10 = b.count 10 + r.count 10 := by rw [← hy, List.count_append]
  have hln : lastNl y = if r.count 10 = 0 then lastNl b else b.length + lastNl r := by rw [← hy, lastNl_append]
  unfold adv
  simp only
  rw [hln, hlen, hct]
  by_cases h1 : r.count 10 = 0
  · rw [if_pos h1, if_pos h1, lastNl_none h1, List.drop_zero, h1]
    rcases hnl with ⟨h2, _⟩ | ⟨h2, h3⟩
    · rw [h2, if_pos rfl, lastNl_none h2, List.drop_zero, List.drop_zero, hc1, hcnt]
      simp only [Nat.add_zero, if_pos]
      congr 1 <;> omega
    · subst h2
      have e1 : lastNl [10] = 1 := rfl
      rw [e1]
      have e2 : y.drop 1 = r := by rw [← hy]; rfl
      rw [e2]
      simp [count_nil]
      omega
  · rw [if_neg h1, if_neg h1, if_neg (by omega)]
    have e2 : y.drop (b.length + lastNl r) = r.drop (lastNl r) := by rw [← hy, List.drop_append, List.drop_eq_nil_of_le (by omega), List.nil_append, Nat.add_sub_cancel_left]
    rw [e2]
    congr 1 <;> omega
theorem adv_nil (p : Pl) : adv p [] = p := by
  have h : lastNl [] = 0 := rfl
  simp [adv, h, count_nil]
/-- A way from a place to another, by characters. -/
inductive Path (l : List UInt8) : Nat → Nat → List Ch → Prop
  | nil {j : Nat} : Path l j j []
  | cons {j e : Nat} {cs : List Ch} (h : j < l.length) (t : Path l (j + (nxt l j).2.1) e cs) : Path l j e (ch1 (l.drop j) :: cs)
theorem Path.le {l : List UInt8} {j e : Nat} {cs : List Ch} (h : Path l j e cs) : j ≤ e ∧ (j ≤ l.length → e ≤ l.length) := by
  induction h with
  | nil => exact ⟨Nat.le_refl _, id⟩
  | cons h t ih => have := nxt_in h; exact ⟨by omega, fun _ => ih.2 (by omega)⟩
theorem Path.snoc {l : List UInt8} {j e : Nat} {cs : List Ch} (h : Path l j e cs) (he : e < l.length) : Path l j (e + (nxt l e).2.1) (cs ++ [ch1 (l.drop e)]) := by
  induction h with
  | nil => exact .cons he .nil
  | cons h t ih => exact .cons h (ih he)
theorem Path.chars {l : List UInt8} {j e : Nat} {cs : List Ch} (h : Path l j e cs) : chars (l.drop j) = cs ++ chars (l.drop e) := by
  induction h with
  | nil => rfl
  | cons h t ih =>
    obtain ⟨_, hn⟩ := nxt_ch h
    rw [chars_cons (by simp; omega), List.drop_drop, ← hn, ih, List.cons_append]
theorem seg_self (l : List UInt8) (i : Nat) : seg l i i = [] := List.drop_eq_nil_of_le (by simp; omega)
theorem seg_eq (l : List UInt8) (i n : Nat) : seg l i (i + n) = (l.drop i).take n := by
  unfold seg
  rw [List.drop_take]
  congr 1
  omega
theorem seg_append {l : List UInt8} {i j k : Nat} (h1 : i ≤ j) (h2 : j ≤ k) : seg l i j ++ seg l j k = seg l i k := by
  obtain ⟨a, rfl⟩ : ∃ a, j = i + a := ⟨j - i, by omega⟩
  obtain ⟨b, rfl⟩ : ∃ b, k = i + a + b := ⟨k - (i + a), by omega⟩
  rw [seg_eq, seg_eq, Nat.add_assoc, seg_eq, ← List.drop_drop, List.take_add]
theorem Path.adv {l : List UInt8} {j e : Nat} {cs : List Ch} (h : Path l j e cs) (p : Pl) : e ≤ l.length → adv p (seg l j e) = cs.foldl (fun p c => adv p c.b) p := by
  induction h generalizing p with
  | nil => intro _; rw [seg_self, adv_nil]; rfl
  | cons h t ih =>
    rename_i j e cs
    intro hel
    obtain ⟨_, hn⟩ := nxt_ch h
    have hle := t.le
    have hp := nxt_in h
    rw [List.foldl_cons, ← ih _ hel]
    obtain ⟨a, rfl⟩ : ∃ a, e = j + a := ⟨e - j, by omega⟩
    have h0 : 0 < (l.drop j).length := by simp; omega
    have h1 : 0 < (seg l j (j + a)).length := by rw [seg_length hel]; omega
    have hd : dec (seg l j (j + a)) = dec (l.drop j) := by rw [seg_eq]; exact dec_take h0 (by omega)
    rw [← adv_cons p h1, hd]
    have e1 : (seg l j (j + a)).take (dec (l.drop j)).2 = (ch1 (l.drop j)).b := by
      rw [seg_eq, List.take_take, Nat.min_eq_left (by omega)]; rfl
    have e2 : (seg l j (j + a)).drop (dec (l.drop j)).2 = seg l (j + (nxt l j).2.1) (j + a) := by
      unfold seg
      rw [List.drop_drop, hn]
    rw [e1, e2]
theorem Path.advOn {l : List UInt8} {j e : Nat} {cs : List Ch} (h : Path l j e cs) (he : e < l.length) (p : Pl) : Go.Proofs.Tryd.adv p (seg l j (e + (nxt l e).2.1)) = Go.Proofs.Tryd.adv (Go.Proofs.Tryd.adv p (seg l j e)) (seg l e (e + (nxt l e).2.1)) := by
  have hp := nxt_in he
  obtain ⟨hc, _⟩ := nxt_ch he
  rw [(h.snoc he).adv p hp.2.1, List.foldl_append, ← h.adv p (by omega), List.foldl_cons, List.foldl_nil, ← hc]
end Go.Proofs.Tryd
