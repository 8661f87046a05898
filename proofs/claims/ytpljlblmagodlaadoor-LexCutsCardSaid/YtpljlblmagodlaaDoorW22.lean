/-
  Walks of the seat of LexCuts, part 22: what the lexer answers.
-/
import Derived.Test.YtpljlblmagodlaaDoorW21
set_option linter.unusedVariables false
set_option linter.unusedSimpArgs false
set_option linter.unusedSimpArgs false
set_option maxRecDepth 100000
set_option maxHeartbeats 4000000
namespace Go.Proofs.Tryd
open Go Go.AL
/-- An answer of a lexer: the tokens in a block of their own, an error, a place; the lexer behind it. -/
def LexAns (k : Nat) (F : Nat → Prop) (M : Mem) (s : LexS) (toks : List Tk) (e : Nat) (p : Pl) (v : Value) (M' : Mem) : Prop :=
  ∃ tk F', v = .tuple #[sl tk toks.length, .int .i64 e, p.v] ∧ LexAt M' k F' s ∧ Row M' tk (tkCells toks) 39 ∧ (∀ j, tk = some j → ¬ F' j ∧ (F j ∨ M.next ≤ j)) ∧ Own M M' F F'
def P0 : Pl := ⟨0, 0, 0⟩
theorem told_walk (k : Nat) (s : LexS) (F : Nat → Prop) (G : Nat) (M : Mem) (hL : LexAt M k F s) :
    ACalls prog G 16 [lp k] M (LexAns k F M { s with toks := [] } s.toks s.wrong s.whr) := by
  have hL' := hL
  obtain ⟨hk, tk, hM, hH, hT, hF⟩ := hL
  refine ACalls.walk (N := 22) (rs := [.tmp 2, .tmp 3, .cell 4 30]) func16 rfl rfl (by kernel_rfl) (by kernel_rfl) fun hw => ?_
  have hkl := hw.lt hM
  have hk1 : k ≠ M.next := by omega
  have hk2 : M.next ≠ k := by omega
  have hkh : hk ≠ some k := hH.ne hM (by decide)
  have hkt : tk ≠ some k := hT.ne hM (by decide)
  have hM' := hM
  simp only [lexCells] at hM
  simp (dsimp := false) (implicitDefEqProofs := false) (maxSteps := 1000000) (disch := omega) only [go_sem, Nat.reduceAdd, Nat.reduceMul, Nat.reduceEqDiff, Nat.reduceBEq, cond_true, cond_false, Nat.reduceLT, Nat.reduceLeDiff, Nat.reduceSub, Int.reduceToNat, Int.reduceLE, Int.reduceLT, Int.reduceEq, Int.reduceNe, Int.reduceAdd, Int.reduceSub, Int.reduceMul, Int.reduceNeg, UInt8.reduceToNat, decide_true, decide_false, decide_not, Int.cast_ofNat_Int, Int.natCast_add, Int.add_sub_cancel, Int.sub_add_cancel, Int.toNat_natCast, eq_self, not_true_eq_false, not_false_eq_true, hM, hk1, hk2]
  refine DR.way (pf := PF.none) [0,1,2,3,4,5,6,7,8,9,10,11] checked.mixed PF.none_ok (by kernel_rfl) ?_
  simp (dsimp := false) (implicitDefEqProofs := false) (maxSteps := 1000000) (disch := omega) only [go_sem, Nat.reduceAdd, Nat.reduceMul, Nat.reduceEqDiff, Nat.reduceBEq, cond_true, cond_false, Nat.reduceLT, Nat.reduceLeDiff, Nat.reduceSub, Int.reduceToNat, Int.reduceLE, Int.reduceLT, Int.reduceEq, Int.reduceNe, Int.reduceAdd, Int.reduceSub, Int.reduceMul, Int.reduceNeg, UInt8.reduceToNat, decide_true, decide_false, decide_not, Int.cast_ofNat_Int, Int.natCast_add, Int.add_sub_cancel, Int.sub_add_cancel, Int.toNat_natCast, eq_self, not_true_eq_false, not_false_eq_true, hM, hk1, hk2]
  refine endAll ⟨tk, fun j => j = k ∨ some j = hk, rfl, ⟨hk, none, ?_, ?_, rfl, fun j => by simp⟩, ?_, ?_, ?_⟩
  · simp (dsimp := false) (implicitDefEqProofs := false) (maxSteps := 1000000) (disch := omega) only [go_sem, Nat.reduceAdd, Nat.reduceMul, Nat.reduceEqDiff, Nat.reduceBEq, cond_true, cond_false, Nat.reduceLT, Nat.reduceLeDiff, Nat.reduceSub, Int.reduceToNat, Int.reduceLE, Int.reduceLT, Int.reduceEq, Int.reduceNe, Int.reduceAdd, Int.reduceSub, Int.reduceMul, Int.reduceNeg, UInt8.reduceToNat, decide_true, decide_false, decide_not, Int.cast_ofNat_Int, Int.natCast_add, Int.add_sub_cancel, Int.sub_add_cancel, Int.toNat_natCast, eq_self, not_true_eq_false, not_false_eq_true, hk1, hk2]
    rfl
  · refine hH.keep fun j ob h1 h2 => ?_
    have := hw.lt h2
    rw [get_alloc' (by rw [next_set]; omega), get_set' (by rintro rfl; exact hkh h1)]
    exact h2
  · refine hT.keep fun j ob h1 h2 => ?_
    have := hw.lt h2
    rw [get_alloc' (by rw [next_set]; omega), get_set' (by rintro rfl; exact hkt h1)]
    exact h2
  · rintro j rfl
    refine ⟨?_, .inl ((hF j).2 (.inr (.inr rfl)))⟩
    rintro (rfl | h)
    · exact hkt rfl
    · exact hH.ne2 hT (by decide) h.symm rfl
  · refine (Own.al hw (.st hw (.inl ((hF k).2 (.inl rfl))) (.refl M F))).to fun j hj => ?_
    rcases hj with rfl | h
    · exact .inl ((hF _).2 (.inl rfl))
    · exact .inl ((hF _).2 (.inr (.inl h)))
def lex0 : LexS := ⟨0, [], [], P0, ⟨0, 1, 1⟩, 0, 0, P0, false, []⟩
theorem new_walk (G : Nat) (M : Mem) : ACalls prog G 6 [] M fun v M' => v = lp M.next ∧ M' = M.alloc (.cells (lexCells (.slice none 0 0) (.slice none 0 0) lex0) 44 0 false) := by
  refine ACalls.walk (N := 4) (rs := [.tmp 0]) func6 rfl rfl (by kernel_rfl) (by kernel_rfl) fun hw => ?_
  simp (dsimp := false) (implicitDefEqProofs := false) (maxSteps := 1000000) (disch := omega) only [go_sem, Nat.reduceAdd, Nat.reduceMul, Nat.reduceEqDiff, Nat.reduceBEq, cond_true, cond_false, Nat.reduceLT, Nat.reduceLeDiff, Nat.reduceSub, Int.reduceToNat, Int.reduceLE, Int.reduceLT, Int.reduceEq, Int.reduceNe, Int.reduceAdd, Int.reduceSub, Int.reduceMul, Int.reduceNeg, UInt8.reduceToNat, decide_true, decide_false, decide_not, Int.cast_ofNat_Int, Int.natCast_add, Int.add_sub_cancel, Int.sub_add_cancel, Int.toNat_natCast, eq_self, not_true_eq_false, not_false_eq_true]
  refine CF.same start_same ?_
  simp (dsimp := false) (implicitDefEqProofs := false) (maxSteps := 1000000) (disch := omega) only [go_sem, Nat.reduceAdd, Nat.reduceMul, Nat.reduceEqDiff, Nat.reduceBEq, cond_true, cond_false, Nat.reduceLT, Nat.reduceLeDiff, Nat.reduceSub, Int.reduceToNat, Int.reduceLE, Int.reduceLT, Int.reduceEq, Int.reduceNe, Int.reduceAdd, Int.reduceSub, Int.reduceMul, Int.reduceNeg, UInt8.reduceToNat, decide_true, decide_false, decide_not, Int.cast_ofNat_Int, Int.natCast_add, Int.add_sub_cancel, Int.sub_add_cancel, Int.toNat_natCast, eq_self, not_true_eq_false, not_false_eq_true]
  exact ⟨_, .less _ rfl (fun _ _ h => h), rfl⟩
theorem new_lex {M : Mem} {G : Nat} {v : Value} {M' : Mem} (h : v = lp M.next ∧ M' = M.alloc (.cells (lexCells (.slice none 0 0) (.slice none 0 0) lex0) 44 0 false)) : v = lp M.next ∧ LexAt M' M.next (· = M.next) lex0 := by
  obtain ⟨rfl, rfl⟩ := h
  exact ⟨rfl, none, none, get_alloc rfl, rfl, rfl, fun j => by simp⟩
def LexS.heldN (s : LexS) : Nat := if s.closed = true ∨ s.wrong ≠ 0 then 0 else s.held.length + s.opn.length
theorem held_walk (k : Nat) (s : LexS) (F : Nat → Prop) (G : Nat) (M : Mem) (hL : LexAt M k F s) (hh : s.held.length < 90000) (ho : s.opn.length < 90000) :
    ACalls prog G 8 [lp k] M (Says (.int .i64 s.heldN) M) := by
  obtain ⟨hk, tk, hM, hH, hT, hF⟩ := hL
  refine ACalls.walk (N := 29) (rs := [.tmp 2]) func8 rfl rfl (by kernel_rfl) (by kernel_rfl) fun hw => ?_
  have hsl : aLen prog 42 (sl hk s.held.length) = some (.int .i64 s.held.length) := sl_len (by exact q_u42) (by rintro rfl; have := congrArg List.length hH.nil; simpa [bcs_length] using this)
  simp only [lexCells] at hM
  simp (dsimp := false) (implicitDefEqProofs := false) (maxSteps := 1000000) (disch := omega) only [go_sem, Nat.reduceAdd, Nat.reduceMul, Nat.reduceEqDiff, Nat.reduceBEq, cond_true, cond_false, Nat.reduceLT, Nat.reduceLeDiff, Nat.reduceSub, Int.reduceToNat, Int.reduceLE, Int.reduceLT, Int.reduceEq, Int.reduceNe, Int.reduceAdd, Int.reduceSub, Int.reduceMul, Int.reduceNeg, UInt8.reduceToNat, decide_true, decide_false, decide_not, Int.cast_ofNat_Int, Int.natCast_add, Int.add_sub_cancel, Int.sub_add_cancel, Int.toNat_natCast, eq_self, not_true_eq_false, not_false_eq_true, hM]
  refine Br.mk (fun h1 => ?_) (fun h1 => ?_)
  · simp (dsimp := false) (implicitDefEqProofs := false) (maxSteps := 1000000) (disch := omega) only [go_sem, Nat.reduceAdd, Nat.reduceMul, Nat.reduceEqDiff, Nat.reduceBEq, cond_true, cond_false, Nat.reduceLT, Nat.reduceLeDiff, Nat.reduceSub, Int.reduceToNat, Int.reduceLE, Int.reduceLT, Int.reduceEq, Int.reduceNe, Int.reduceAdd, Int.reduceSub, Int.reduceMul, Int.reduceNeg, UInt8.reduceToNat, decide_true, decide_false, decide_not, Int.cast_ofNat_Int, Int.natCast_add, Int.add_sub_cancel, Int.sub_add_cancel, Int.toNat_natCast, eq_self, not_true_eq_false, not_false_eq_true, h1]
    exact endSays rfl (Keep.refl _) (by rw [LexS.heldN, if_pos (.inl h1)]; rfl)
  simp (dsimp := false) (implicitDefEqProofs := false) (maxSteps := 1000000) (disch := omega) only [go_sem, Nat.reduceAdd, Nat.reduceMul, Nat.reduceEqDiff, Nat.reduceBEq, cond_true, cond_false, Nat.reduceLT, Nat.reduceLeDiff, Nat.reduceSub, Int.reduceToNat, Int.reduceLE, Int.reduceLT, Int.reduceEq, Int.reduceNe, Int.reduceAdd, Int.reduceSub, Int.reduceMul, Int.reduceNeg, UInt8.reduceToNat, decide_true, decide_false, decide_not, Int.cast_ofNat_Int, Int.natCast_add, Int.add_sub_cancel, Int.sub_add_cancel, Int.toNat_natCast, eq_self, not_true_eq_false, not_false_eq_true, h1, hM]
  refine Br.of (fun h2 => ?_) (fun h2 => ?_)
  · simp (dsimp := false) (implicitDefEqProofs := false) (maxSteps := 1000000) (disch := omega) only [go_sem, Nat.reduceAdd, Nat.reduceMul, Nat.reduceEqDiff, Nat.reduceBEq, cond_true, cond_false, Nat.reduceLT, Nat.reduceLeDiff, Nat.reduceSub, Int.reduceToNat, Int.reduceLE, Int.reduceLT, Int.reduceEq, Int.reduceNe, Int.reduceAdd, Int.reduceSub, Int.reduceMul, Int.reduceNeg, UInt8.reduceToNat, decide_true, decide_false, decide_not, Int.cast_ofNat_Int, Int.natCast_add, Int.add_sub_cancel, Int.sub_add_cancel, Int.toNat_natCast, eq_self, not_true_eq_false, not_false_eq_true, h1, h2, hM]
    refine DR.way (pf := PF.none) [0,1,2,3,4,5,6,7,8,9,10,11] checked.mixed PF.none_ok (by kernel_rfl) ?_
    simp (dsimp := false) (implicitDefEqProofs := false) (maxSteps := 1000000) (disch := omega) only [go_sem, Nat.reduceAdd, Nat.reduceMul, Nat.reduceEqDiff, Nat.reduceBEq, cond_true, cond_false, Nat.reduceLT, Nat.reduceLeDiff, Nat.reduceSub, Int.reduceToNat, Int.reduceLE, Int.reduceLT, Int.reduceEq, Int.reduceNe, Int.reduceAdd, Int.reduceSub, Int.reduceMul, Int.reduceNeg, UInt8.reduceToNat, decide_true, decide_false, decide_not, Int.cast_ofNat_Int, Int.natCast_add, Int.add_sub_cancel, Int.sub_add_cancel, Int.toNat_natCast, eq_self, not_true_eq_false, not_false_eq_true, hM, hsl]
    exact endSays rfl (Keep.refl _) (by rw [LexS.heldN, if_neg (by rintro (h | h); rw [h1] at h; cases h; omega)]; simp)
  · simp (dsimp := false) (implicitDefEqProofs := false) (maxSteps := 1000000) (disch := omega) only [go_sem, Nat.reduceAdd, Nat.reduceMul, Nat.reduceEqDiff, Nat.reduceBEq, cond_true, cond_false, Nat.reduceLT, Nat.reduceLeDiff, Nat.reduceSub, Int.reduceToNat, Int.reduceLE, Int.reduceLT, Int.reduceEq, Int.reduceNe, Int.reduceAdd, Int.reduceSub, Int.reduceMul, Int.reduceNeg, UInt8.reduceToNat, decide_true, decide_false, decide_not, Int.cast_ofNat_Int, Int.natCast_add, Int.add_sub_cancel, Int.sub_add_cancel, Int.toNat_natCast, eq_self, not_true_eq_false, not_false_eq_true, h1, h2]
    exact endSays rfl (Keep.refl _) (by rw [LexS.heldN, if_pos (.inr (by omega))]; rfl)
theorem heldNil_walk (G : Nat) (M : Mem) : ACalls prog G 8 [.pointer none] M (Says (.int .i64 0) M) := by
  refine ACalls.walk (N := 29) (rs := [.tmp 2]) func8 rfl rfl (by kernel_rfl) (by kernel_rfl) fun hw => ?_
  simp (dsimp := false) (implicitDefEqProofs := false) (maxSteps := 1000000) (disch := omega) only [go_sem, Nat.reduceAdd, Nat.reduceMul, Nat.reduceEqDiff, Nat.reduceBEq, cond_true, cond_false, Nat.reduceLT, Nat.reduceLeDiff, Nat.reduceSub, Int.reduceToNat, Int.reduceLE, Int.reduceLT, Int.reduceEq, Int.reduceNe, Int.reduceAdd, Int.reduceSub, Int.reduceMul, Int.reduceNeg, UInt8.reduceToNat, decide_true, decide_false, decide_not, Int.cast_ofNat_Int, Int.natCast_add, Int.add_sub_cancel, Int.sub_add_cancel, Int.toNat_natCast, eq_self, not_true_eq_false, not_false_eq_true]
  exact endSays rfl (Keep.refl _) rfl
theorem feedNil_walk (l : List UInt8) (G : Nat) (M : Mem) : ACalls prog G 7 [.pointer none, .string (bs l)] M (Says (.tuple #[.slice none 0 0, .int .i64 3, P0.v]) M) := by
  refine ACalls.walk (N := 57) (rs := [.tmp 4, .tmp 5, .cell 6 30]) func7 rfl rfl (by kernel_rfl) (by kernel_rfl) fun hw => ?_
  simp (dsimp := false) (implicitDefEqProofs := false) (maxSteps := 1000000) (disch := omega) only [go_sem, Nat.reduceAdd, Nat.reduceMul, Nat.reduceEqDiff, Nat.reduceBEq, cond_true, cond_false, Nat.reduceLT, Nat.reduceLeDiff, Nat.reduceSub, Int.reduceToNat, Int.reduceLE, Int.reduceLT, Int.reduceEq, Int.reduceNe, Int.reduceAdd, Int.reduceSub, Int.reduceMul, Int.reduceNeg, UInt8.reduceToNat, decide_true, decide_false, decide_not, Int.cast_ofNat_Int, Int.natCast_add, Int.add_sub_cancel, Int.sub_add_cancel, Int.toNat_natCast, eq_self, not_true_eq_false, not_false_eq_true]
  exact endGrow rfl (.alloc hw (.refl M)) rfl
theorem closeNil_walk (G : Nat) (M : Mem) : ACalls prog G 9 [.pointer none] M (Says (.tuple #[.slice none 0 0, .int .i64 3, P0.v]) M) := by
  refine ACalls.walk (N := 52) (rs := [.tmp 2, .tmp 3, .cell 4 30]) func9 rfl rfl (by kernel_rfl) (by kernel_rfl) fun hw => ?_
  simp (dsimp := false) (implicitDefEqProofs := false) (maxSteps := 1000000) (disch := omega) only [go_sem, Nat.reduceAdd, Nat.reduceMul, Nat.reduceEqDiff, Nat.reduceBEq, cond_true, cond_false, Nat.reduceLT, Nat.reduceLeDiff, Nat.reduceSub, Int.reduceToNat, Int.reduceLE, Int.reduceLT, Int.reduceEq, Int.reduceNe, Int.reduceAdd, Int.reduceSub, Int.reduceMul, Int.reduceNeg, UInt8.reduceToNat, decide_true, decide_false, decide_not, Int.cast_ofNat_Int, Int.natCast_add, Int.add_sub_cancel, Int.sub_add_cancel, Int.toNat_natCast, eq_self, not_true_eq_false, not_false_eq_true]
  exact endGrow rfl (.alloc hw (.refl M)) rfl
theorem LexAt.away {M : Mem} {k : Nat} {F : Nat → Prop} {s : LexS} (h : LexAt M k F s) {j : Nat} (hj : ¬ F j) (a : AObj) : LexAt (M.set j a) k F s := by
  obtain ⟨hk, tk, b1, b2, b3, b4⟩ := h
  refine ⟨hk, tk, by rw [get_set' (by rintro rfl; exact hj ((b4 _).2 (.inl rfl)))]; exact b1, b2.keep fun i ob e1 e2 => ?_, b3.keep fun i ob e1 e2 => ?_, b4⟩
  · rw [get_set' (by rintro rfl; exact hj ((b4 _).2 (.inr (.inl e1.symm))))]; exact e2
  · rw [get_set' (by rintro rfl; exact hj ((b4 _).2 (.inr (.inr e1.symm))))]; exact e2
theorem Row.away {M : Mem} {o : Option Nat} {cs : List Value} {e j : Nat} (h : Row M o cs e) (hj : o ≠ some j) (a : AObj) : Row (M.set j a) o cs e :=
  h.keep fun i ob e1 e2 => by rw [get_set' (by rintro rfl; exact hj e1)]; exact e2
/-- Feed: the lexer behind it, and the answer. -/
def LexS.feed (s : LexS) (l : List UInt8) : LexS × List Tk × Nat × Pl :=
  if s.closed = true then (s, [], 4, P0)
  else if s.wrong ≠ 0 then (s, [], s.wrong, s.whr)
  else
    let t := s.opn ++ l
    let s1 := { s with opn := t.drop (whole t) }.take (t.take (whole t))
    ({ s1 with toks := [] }, s1.toks, s1.wrong, s1.whr)
theorem whole_le (l : List UInt8) : whole l ≤ l.length ∧ l.length ≤ whole l + 3 := by
  have key : ∀ f n, f + n = 5 → 1 ≤ n → wholeG l f n ≤ l.length ∧ l.length ≤ wholeG l f n + 3 := by
    intro f
    induction f with
    | zero => intro n _ _; simp [wholeG]
    | succ f ih =>
      intro n h h1
      rw [wholeG]
      split
      · split
        · exact ih (n + 1) (by omega) (by omega)
        · omega
      · omega
  exact key 4 1 rfl (Nat.le_refl _)
theorem feed_walk (k : Nat) (l : List UInt8) (s : LexS) (F : Nat → Prop) (G : Nat) (M : Mem) (N : Nat) (hGl : Glob G M) (hGu : GlobU G M) (hL : LexAt M k F s) (ho : s.opn.length ≤ 3) (hl : l.length + 3 + N < 90000000) (hs : s.OK N N) (hp : s.here.lt N) :
    ACalls prog G 7 [lp k, .string (bs l)] M (LexAns k F M (s.feed l).1 (s.feed l).2.1 (s.feed l).2.2.1 (s.feed l).2.2.2) := by
  have hL' := hL
  obtain ⟨hk, tk, hM, hH, hT, hF⟩ := hL
  refine ACalls.walk (N := 57) (rs := [.tmp 4, .tmp 5, .cell 6 30]) func7 rfl rfl (by kernel_rfl) (by kernel_rfl) fun hw => ?_
  have hkl := hw.lt hM
  have hk1 : k ≠ M.next := by omega
  have hk2 : M.next ≠ k := by omega
  have hM' := hM
  have Fk := (hF k).2 (.inl rfl)
  have hq := LexS.feed.eq_1 s l
  generalize s.feed l = X at hq ⊢
  simp only [lexCells] at hM
  have keepL : ∀ o, LexAt (M.alloc o) k F s := fun o => ⟨hk, tk, by rw [get_alloc' hk1]; exact hM', hH.keep fun j ob _ e => by rw [get_alloc' (by have := hw.lt e; omega)]; exact e, hT.keep fun j ob _ e => by rw [get_alloc' (by have := hw.lt e; omega)]; exact e, hF⟩
  simp (dsimp := false) (implicitDefEqProofs := false) (maxSteps := 1000000) (disch := omega) only [go_sem, Nat.reduceAdd, Nat.reduceMul, Nat.reduceEqDiff, Nat.reduceBEq, cond_true, cond_false, Nat.reduceLT, Nat.reduceLeDiff, Nat.reduceSub, Int.reduceToNat, Int.reduceLE, Int.reduceLT, Int.reduceEq, Int.reduceNe, Int.reduceAdd, Int.reduceSub, Int.reduceMul, Int.reduceNeg, UInt8.reduceToNat, decide_true, decide_false, decide_not, Int.cast_ofNat_Int, Int.natCast_add, Int.add_sub_cancel, Int.sub_add_cancel, Int.toNat_natCast, eq_self, not_true_eq_false, not_false_eq_true, hM, hk1, hk2]
  refine Br.mk (fun h1 => ?_) (fun h1 => ?_)
  · simp (dsimp := false) (implicitDefEqProofs := false) (maxSteps := 1000000) (disch := omega) only [go_sem, Nat.reduceAdd, Nat.reduceMul, Nat.reduceEqDiff, Nat.reduceBEq, cond_true, cond_false, Nat.reduceLT, Nat.reduceLeDiff, Nat.reduceSub, Int.reduceToNat, Int.reduceLE, Int.reduceLT, Int.reduceEq, Int.reduceNe, Int.reduceAdd, Int.reduceSub, Int.reduceMul, Int.reduceNeg, UInt8.reduceToNat, decide_true, decide_false, decide_not, Int.cast_ofNat_Int, Int.natCast_add, Int.add_sub_cancel, Int.sub_add_cancel, Int.toNat_natCast, eq_self, not_true_eq_false, not_false_eq_true, h1, hk1, hk2]
    rw [if_pos h1] at hq
    subst hq
    exact endAll ⟨none, F, rfl, keepL _, rfl, (fun j e => by cases e), .al hw (.refl M F)⟩
  rw [if_neg (by rw [h1]; simp)] at hq
  simp (dsimp := false) (implicitDefEqProofs := false) (maxSteps := 1000000) (disch := omega) only [go_sem, Nat.reduceAdd, Nat.reduceMul, Nat.reduceEqDiff, Nat.reduceBEq, cond_true, cond_false, Nat.reduceLT, Nat.reduceLeDiff, Nat.reduceSub, Int.reduceToNat, Int.reduceLE, Int.reduceLT, Int.reduceEq, Int.reduceNe, Int.reduceAdd, Int.reduceSub, Int.reduceMul, Int.reduceNeg, UInt8.reduceToNat, decide_true, decide_false, decide_not, Int.cast_ofNat_Int, Int.natCast_add, Int.add_sub_cancel, Int.sub_add_cancel, Int.toNat_natCast, eq_self, not_true_eq_false, not_false_eq_true, h1, hM, hk1, hk2]
  refine Br.of (fun h2 => ?_) (fun h2 => ?_)
  rotate_left
  · simp (dsimp := false) (implicitDefEqProofs := false) (maxSteps := 1000000) (disch := omega) only [go_sem, Nat.reduceAdd, Nat.reduceMul, Nat.reduceEqDiff, Nat.reduceBEq, cond_true, cond_false, Nat.reduceLT, Nat.reduceLeDiff, Nat.reduceSub, Int.reduceToNat, Int.reduceLE, Int.reduceLT, Int.reduceEq, Int.reduceNe, Int.reduceAdd, Int.reduceSub, Int.reduceMul, Int.reduceNeg, UInt8.reduceToNat, decide_true, decide_false, decide_not, Int.cast_ofNat_Int, Int.natCast_add, Int.add_sub_cancel, Int.sub_add_cancel, Int.toNat_natCast, eq_self, not_true_eq_false, not_false_eq_true]
    refine DR.way (pf := PF.none) [0,1,2,3,4,5,6,7,8,9,10] checked.mixed PF.none_ok (by kernel_rfl) ?_
    simp (dsimp := false) (implicitDefEqProofs := false) (maxSteps := 1000000) (disch := omega) only [go_sem, Nat.reduceAdd, Nat.reduceMul, Nat.reduceEqDiff, Nat.reduceBEq, cond_true, cond_false, Nat.reduceLT, Nat.reduceLeDiff, Nat.reduceSub, Int.reduceToNat, Int.reduceLE, Int.reduceLT, Int.reduceEq, Int.reduceNe, Int.reduceAdd, Int.reduceSub, Int.reduceMul, Int.reduceNeg, UInt8.reduceToNat, decide_true, decide_false, decide_not, Int.cast_ofNat_Int, Int.natCast_add, Int.add_sub_cancel, Int.sub_add_cancel, Int.toNat_natCast, eq_self, not_true_eq_false, not_false_eq_true, hM, hk1, hk2]
    rw [if_pos (by omega)] at hq
    subst hq
    exact endAll ⟨none, F, rfl, keepL _, rfl, (fun j e => by cases e), .al hw (.refl M F)⟩
  rw [if_neg (by omega)] at hq
  simp (dsimp := false) (implicitDefEqProofs := false) (maxSteps := 1000000) (disch := omega) only [go_sem, Nat.reduceAdd, Nat.reduceMul, Nat.reduceEqDiff, Nat.reduceBEq, cond_true, cond_false, Nat.reduceLT, Nat.reduceLeDiff, Nat.reduceSub, Int.reduceToNat, Int.reduceLE, Int.reduceLT, Int.reduceEq, Int.reduceNe, Int.reduceAdd, Int.reduceSub, Int.reduceMul, Int.reduceNeg, UInt8.reduceToNat, decide_true, decide_false, decide_not, Int.cast_ofNat_Int, Int.natCast_add, Int.add_sub_cancel, Int.sub_add_cancel, Int.toNat_natCast, eq_self, not_true_eq_false, not_false_eq_true, h1, hM, hk1, hk2]
  have htl : (s.opn ++ l).length < 1000000000 := by simp; omega
  have hgu1 : ∀ o, GlobU G (M.alloc o) := fun o => hGu.keep (Keep.alloc (.refl M) hw (Nat.le_refl _) o)
  have hgl1 : ∀ o, Glob G (M.alloc o) := fun o => hGl.keep (Keep.alloc (.refl M) hw (Nat.le_refl _) o)
  refine CF.at ((whole_walk (s.opn ++ l) htl G _ (hgu1 _)).callF func13 rfl rfl) ?_
  obtain ⟨w1, w2⟩ := whole_le (s.opn ++ l)
  simp only at hq
  generalize hwn : whole (s.opn ++ l) = wn at hq w1 w2 ⊢
  simp (dsimp := false) (implicitDefEqProofs := false) (maxSteps := 1000000) (disch := omega) only [go_sem, Nat.reduceAdd, Nat.reduceMul, Nat.reduceEqDiff, Nat.reduceBEq, cond_true, cond_false, Nat.reduceLT, Nat.reduceLeDiff, Nat.reduceSub, Int.reduceToNat, Int.reduceLE, Int.reduceLT, Int.reduceEq, Int.reduceNe, Int.reduceAdd, Int.reduceSub, Int.reduceMul, Int.reduceNeg, UInt8.reduceToNat, decide_true, decide_false, decide_not, Int.cast_ofNat_Int, Int.natCast_add, Int.add_sub_cancel, Int.sub_add_cancel, Int.toNat_natCast, eq_self, not_true_eq_false, not_false_eq_true, hk1, hk2]
  refine ⟨by omega, CF.same (clone_same ((s.opn ++ l).drop wn) (by simp; omega)) ?_⟩
  simp (dsimp := false) (implicitDefEqProofs := false) (maxSteps := 1000000) (disch := omega) only [go_sem, Nat.reduceAdd, Nat.reduceMul, Nat.reduceEqDiff, Nat.reduceBEq, cond_true, cond_false, Nat.reduceLT, Nat.reduceLeDiff, Nat.reduceSub, Int.reduceToNat, Int.reduceLE, Int.reduceLT, Int.reduceEq, Int.reduceNe, Int.reduceAdd, Int.reduceSub, Int.reduceMul, Int.reduceNeg, UInt8.reduceToNat, decide_true, decide_false, decide_not, Int.cast_ofNat_Int, Int.natCast_add, Int.add_sub_cancel, Int.sub_add_cancel, Int.toNat_natCast, eq_self, not_true_eq_false, not_false_eq_true, hM, hk1, hk2]
  have hL1 : LexAt ((M.set k (.cells (lexCells (sl hk s.held.length) (sl tk s.toks.length) { s with opn := (s.opn ++ l).drop wn }) 44 0 false)).alloc (.cells [.int .i64 0, .int .i64 0, .int .i64 0] 30 0 false)) k F { s with opn := (s.opn ++ l).drop wn } := by
    obtain ⟨a1, a2, b1, b2, b3, b4⟩ := lexPut (s' := { s with opn := (s.opn ++ l).drop wn }) hM' hH hT hF rfl rfl
    have hw1 := WF.set hw hkl (a := .cells (lexCells (sl hk s.held.length) (sl tk s.toks.length) { s with opn := (s.opn ++ l).drop wn }) 44 0 false)
    exact ⟨a1, a2, by rw [get_alloc' (by rw [next_set]; exact hk1)]; exact b1, b2.keep fun j ob _ e => by rw [get_alloc' (by have := hw1.lt e; omega)]; exact e, b3.keep fun j ob _ e => by rw [get_alloc' (by have := hw1.lt e; omega)]; exact e, b4⟩
  have hO1 : Own M ((M.set k (.cells (lexCells (sl hk s.held.length) (sl tk s.toks.length) { s with opn := (s.opn ++ l).drop wn }) 44 0 false)).alloc (.cells [.int .i64 0, .int .i64 0, .int .i64 0] 30 0 false)) F F := .al hw (.st hw (.inl Fk) (.refl M F))
  refine ⟨by omega, CF.by ((take_walk k ((s.opn ++ l).take wn) { s with opn := (s.opn ++ l).drop wn } F G _ N (hGl.own hL' hO1) hL1 (by simp; omega) ⟨hs.1, hs.2, hs.3, hs.4⟩ hp).callF func15 rfl rfl) ?_⟩
  rintro v M1 ⟨rfl, F1, hL2, hO2⟩
  generalize LexS.take { s with opn := (s.opn ++ l).drop wn } ((s.opn ++ l).take wn) = s1 at hq hL2
  have hO3 := hO1.trans hw hO2
  simp (dsimp := false) (implicitDefEqProofs := false) (maxSteps := 1000000) (disch := omega) only [go_sem, Nat.reduceAdd, Nat.reduceMul, Nat.reduceEqDiff, Nat.reduceBEq, cond_true, cond_false, Nat.reduceLT, Nat.reduceLeDiff, Nat.reduceSub, Int.reduceToNat, Int.reduceLE, Int.reduceLT, Int.reduceEq, Int.reduceNe, Int.reduceAdd, Int.reduceSub, Int.reduceMul, Int.reduceNeg, UInt8.reduceToNat, decide_true, decide_false, decide_not, Int.cast_ofNat_Int, Int.natCast_add, Int.add_sub_cancel, Int.sub_add_cancel, Int.toNat_natCast, eq_self, not_true_eq_false, not_false_eq_true]
  refine CF.by ((told_walk k s1 F1 G M1 hL2).callF func16 rfl rfl) ?_
  rintro v M2 ⟨tk2, F2, rfl, hL3, hR, hD, hO4⟩
  have hO5 := hO3.trans hw hO4
  have f0 : ¬ F M.next := fun h => by
    obtain ⟨cs, e, h'⟩ := hL'.ro h
    have := hw.lt h'; omega
  have f1 : ¬ F1 M.next := fun h => by
    rcases hO2.new _ h with h | h
    · exact f0 h
    · rw [next_alloc, next_set] at h; omega
  have n1 : M.next + 1 ≤ M1.next := by have := hO2.next; rw [next_alloc, next_set] at this; exact this
  have f2 : ¬ F2 M.next := fun h => by
    rcases hO4.new _ h with h | h
    · exact f1 h
    · omega
  have hp6 : M2.get M.next = some (.cells [.int .i64 0, .int .i64 0, .int .i64 0] 30 0 false) := hO4.keep M.next _ (hO2.keep M.next _ (get_alloc (by rw [next_set])) f0) f1
  simp (dsimp := false) (implicitDefEqProofs := false) (maxSteps := 1000000) (disch := omega) only [go_sem, Nat.reduceAdd, Nat.reduceMul, Nat.reduceEqDiff, Nat.reduceBEq, cond_true, cond_false, Nat.reduceLT, Nat.reduceLeDiff, Nat.reduceSub, Int.reduceToNat, Int.reduceLE, Int.reduceLT, Int.reduceEq, Int.reduceNe, Int.reduceAdd, Int.reduceSub, Int.reduceMul, Int.reduceNeg, UInt8.reduceToNat, decide_true, decide_false, decide_not, Int.cast_ofNat_Int, Int.natCast_add, Int.add_sub_cancel, Int.sub_add_cancel, Int.toNat_natCast, eq_self, not_true_eq_false, not_false_eq_true, hp6, Pl.v]
  subst hq
  refine endAll ⟨tk2, F2, rfl, hL3.away f2 _, Row.away hR (fun e => ?_) _, fun j e => ⟨(hD j e).1, ?_⟩, .st hw (.inr (Nat.le_refl _)) hO5⟩
  · rcases (hD _ e).2 with h | h
    · exact f1 h
    · omega
  · rcases (hD _ e).2 with h | h
    · exact hO3.new j h
    · exact .inr (by omega)
/-- Close: the lexer behind it, and the answer. -/
def LexS.close (s : LexS) : LexS × List Tk × Nat × Pl :=
  if s.closed = true then (s, [], 4, P0)
  else if s.wrong ≠ 0 then ({ s with closed := true }, [], s.wrong, s.whr)
  else
    let s1 := { { s with closed := true }.take s.opn with opn := [] }
    let s2 := if s1.wrong = 0 then s1.endL else s1
    ({ s2 with toks := [] }, s2.toks, s2.wrong, s2.whr)
theorem feed_same (k : Nat) (l : List UInt8) (s : LexS) (F : Nat → Prop) (G : Nat) (M : Mem) (N : Nat) (hGl : Glob G M) (hGu : GlobU G M) (hL : LexAt M k F s) (ho : s.opn.length ≤ 3) (hl : l.length + 3 + N < 90000000) (hs : s.OK N N) (hp : s.here.lt N) :
    ACallF prog G 7 [lp k, .string (bs l)] M (LexAns k F M (s.feed l).1 (s.feed l).2.1 (s.feed l).2.2.1 (s.feed l).2.2.2) := (feed_walk k l s F G M N hGl hGu hL ho hl hs hp).callF func7 rfl rfl
theorem takeN_closed (l : List UInt8) : ∀ (n i : Nat) (s : LexS), (LexS.takeN l n i s).closed = s.closed ∧ (LexS.takeN l n i s).opn = s.opn
  | 0, _, s => ⟨rfl, rfl⟩
  | n + 1, i, s => by
    rw [LexS.takeN]
    split
    · have h := takeN_closed l n (i + (nxt l i).2.1) (s.char (nxt l i).1 (seg l i (i + (nxt l i).2.1)) (nxt l i).2.2)
      have hc : (s.char (nxt l i).1 (seg l i (i + (nxt l i).2.1)) (nxt l i).2.2).closed = s.closed ∧ (s.char (nxt l i).1 (seg l i (i + (nxt l i).2.1)) (nxt l i).2.2).opn = s.opn := by
        have hr := rest_step s (nxt l i).1 (seg l i (i + (nxt l i).2.1)) (nxt l i).2.2
        unfold LexS.char
        split
        · exact ⟨hr.2.1, hr.2.2⟩
        · exact ⟨hr.2.1, hr.2.2⟩
      exact ⟨h.1.trans hc.1, h.2.trans hc.2⟩
    · exact ⟨rfl, rfl⟩
theorem takeN_ok (l : List UInt8) (N : Nat) : ∀ (n i : Nat) (s : LexS), i ≤ l.length → s.OK (N + i) (N + i) → s.here.lt (N + i) → (LexS.takeN l n i s).OK (N + l.length) (N + l.length) ∧ (LexS.takeN l n i s).here.lt (N + l.length)
  | 0, i, s, hi, h, hp => ⟨h.le (by omega) (by omega), by obtain ⟨h1, h2, h3⟩ := hp; exact ⟨by simp only [LexS.takeN]; omega, by simp only [LexS.takeN]; omega, by simp only [LexS.takeN]; omega⟩⟩
  | n + 1, i, s, hi, h, hp => by
    rw [LexS.takeN]
    split
    · rename_i hc
      obtain ⟨n1, n2, n3⟩ := nxt_in (l := l) (i := i) hc.1
      have hsl : (seg l i (i + (nxt l i).2.1)).length = (nxt l i).2.1 := by rw [seg_length n2]; omega
      have hoc := (h.char (nxt l i).1 (b := seg l i (i + (nxt l i).2.1)) (by omega) (nxt l i).2.2).le (T' := N + (i + (nxt l i).2.1)) (D' := N + (i + (nxt l i).2.1)) (by omega) (by omega)
      have hpc := char_here hp (nxt l i).1 (seg l i (i + (nxt l i).2.1)) (nxt l i).2.2
      rw [hsl, Nat.add_assoc] at hpc
      exact takeN_ok l N n _ _ n2 hoc hpc
    · obtain ⟨h1, h2, h3⟩ := hp
      exact ⟨h.le (by omega) (by omega), ⟨by omega, by omega, by omega⟩⟩
theorem take_ok {s : LexS} {N : Nat} (l : List UInt8) (h : s.OK N N) (hp : s.here.lt N) : (s.take l).OK (N + l.length) (N + l.length) ∧ (s.take l).here.lt (N + l.length) := takeN_ok l N _ 0 s (Nat.zero_le _) h hp
theorem close_walk (k : Nat) (s : LexS) (F : Nat → Prop) (G : Nat) (M : Mem) (N : Nat) (hGl : Glob G M) (hL : LexAt M k F s) (hl : s.opn.length + N < 80000000) (hs : s.OK N N) (hp : s.here.lt N) :
    ACalls prog G 9 [lp k] M (LexAns k F M s.close.1 s.close.2.1 s.close.2.2.1 s.close.2.2.2) := by
  have hL' := hL
  obtain ⟨hk, tk, hM, hH, hT, hF⟩ := hL
  refine ACalls.walk (N := 52) (rs := [.tmp 2, .tmp 3, .cell 4 30]) func9 rfl rfl (by kernel_rfl) (by kernel_rfl) fun hw => ?_
  have hkl := hw.lt hM
  have hk1 : k ≠ M.next := by omega
  have hk2 : M.next ≠ k := by omega
  have hM' := hM
  have Fk := (hF k).2 (.inl rfl)
  have hq := LexS.close.eq_1 s
  generalize s.close = X at hq ⊢
  simp only [lexCells] at hM
  have keepA : ∀ (M0 : Mem) (s0 : LexS) (o : AObj), M0.next = M.next → LexAt M0 k F s0 → LexAt (M0.alloc o) k F s0 := by
    rintro M0 s0 o e ⟨a, b, b1, b2, b3, b4⟩
    have ne : ∀ j ob, M0.get j = some ob → F j → j ≠ M0.next := fun j ob _ hj => by
      have hj' : j < M.next := by
        obtain ⟨cs, e', h'⟩ := hL'.ro hj; exact hw.lt h'
      omega
    exact ⟨a, b, by rw [get_alloc' (ne _ _ b1 Fk)]; exact b1, b2.keep fun j ob e1 e2 => by rw [get_alloc' (ne j ob e2 ((b4 j).2 (.inr (.inl e1.symm))))]; exact e2, b3.keep fun j ob e1 e2 => by rw [get_alloc' (ne j ob e2 ((b4 j).2 (.inr (.inr e1.symm))))]; exact e2, b4⟩
  have hLc : LexAt (M.set k (.cells (lexCells (sl hk s.held.length) (sl tk s.toks.length) { s with closed := true }) 44 0 false)) k F { s with closed := true } := lexPut (s' := { s with closed := true }) hM' hH hT hF rfl rfl
  simp (dsimp := false) (implicitDefEqProofs := false) (maxSteps := 1000000) (disch := omega) only [go_sem, Nat.reduceAdd, Nat.reduceMul, Nat.reduceEqDiff, Nat.reduceBEq, cond_true, cond_false, Nat.reduceLT, Nat.reduceLeDiff, Nat.reduceSub, Int.reduceToNat, Int.reduceLE, Int.reduceLT, Int.reduceEq, Int.reduceNe, Int.reduceAdd, Int.reduceSub, Int.reduceMul, Int.reduceNeg, UInt8.reduceToNat, decide_true, decide_false, decide_not, Int.cast_ofNat_Int, Int.natCast_add, Int.add_sub_cancel, Int.sub_add_cancel, Int.toNat_natCast, eq_self, not_true_eq_false, not_false_eq_true, hM, hk1, hk2]
  refine Br.mk (fun h1 => ?_) (fun h1 => ?_)
  · simp (dsimp := false) (implicitDefEqProofs := false) (maxSteps := 1000000) (disch := omega) only [go_sem, Nat.reduceAdd, Nat.reduceMul, Nat.reduceEqDiff, Nat.reduceBEq, cond_true, cond_false, Nat.reduceLT, Nat.reduceLeDiff, Nat.reduceSub, Int.reduceToNat, Int.reduceLE, Int.reduceLT, Int.reduceEq, Int.reduceNe, Int.reduceAdd, Int.reduceSub, Int.reduceMul, Int.reduceNeg, UInt8.reduceToNat, decide_true, decide_false, decide_not, Int.cast_ofNat_Int, Int.natCast_add, Int.add_sub_cancel, Int.sub_add_cancel, Int.toNat_natCast, eq_self, not_true_eq_false, not_false_eq_true, h1, hk1, hk2]
    rw [if_pos h1] at hq
    subst hq
    exact endAll ⟨none, F, rfl, keepA _ _ _ rfl hL', rfl, (fun j e => by cases e), .al hw (.refl M F)⟩
  rw [if_neg (by rw [h1]; simp)] at hq
  simp (dsimp := false) (implicitDefEqProofs := false) (maxSteps := 1000000) (disch := omega) only [go_sem, Nat.reduceAdd, Nat.reduceMul, Nat.reduceEqDiff, Nat.reduceBEq, cond_true, cond_false, Nat.reduceLT, Nat.reduceLeDiff, Nat.reduceSub, Int.reduceToNat, Int.reduceLE, Int.reduceLT, Int.reduceEq, Int.reduceNe, Int.reduceAdd, Int.reduceSub, Int.reduceMul, Int.reduceNeg, UInt8.reduceToNat, decide_true, decide_false, decide_not, Int.cast_ofNat_Int, Int.natCast_add, Int.add_sub_cancel, Int.sub_add_cancel, Int.toNat_natCast, eq_self, not_true_eq_false, not_false_eq_true, h1, hM, hk1, hk2]
  refine Br.of (fun h2 => ?_) (fun h2 => ?_)
  rotate_left
  · simp (dsimp := false) (implicitDefEqProofs := false) (maxSteps := 1000000) (disch := omega) only [go_sem, Nat.reduceAdd, Nat.reduceMul, Nat.reduceEqDiff, Nat.reduceBEq, cond_true, cond_false, Nat.reduceLT, Nat.reduceLeDiff, Nat.reduceSub, Int.reduceToNat, Int.reduceLE, Int.reduceLT, Int.reduceEq, Int.reduceNe, Int.reduceAdd, Int.reduceSub, Int.reduceMul, Int.reduceNeg, UInt8.reduceToNat, decide_true, decide_false, decide_not, Int.cast_ofNat_Int, Int.natCast_add, Int.add_sub_cancel, Int.sub_add_cancel, Int.toNat_natCast, eq_self, not_true_eq_false, not_false_eq_true]
    refine DR.way (pf := PF.none) [0,1,2,3,4,5,6,7,8,9,10] checked.mixed PF.none_ok (by kernel_rfl) ?_
    simp (dsimp := false) (implicitDefEqProofs := false) (maxSteps := 1000000) (disch := omega) only [go_sem, Nat.reduceAdd, Nat.reduceMul, Nat.reduceEqDiff, Nat.reduceBEq, cond_true, cond_false, Nat.reduceLT, Nat.reduceLeDiff, Nat.reduceSub, Int.reduceToNat, Int.reduceLE, Int.reduceLT, Int.reduceEq, Int.reduceNe, Int.reduceAdd, Int.reduceSub, Int.reduceMul, Int.reduceNeg, UInt8.reduceToNat, decide_true, decide_false, decide_not, Int.cast_ofNat_Int, Int.natCast_add, Int.add_sub_cancel, Int.sub_add_cancel, Int.toNat_natCast, eq_self, not_true_eq_false, not_false_eq_true, hM, hk1, hk2]
    rw [if_pos (by omega)] at hq
    subst hq
    exact endAll ⟨none, F, rfl, keepA _ _ _ rfl hLc, rfl, (fun j e => by cases e), .al hw (.st hw (.inl Fk) (.refl M F))⟩
  rw [if_neg (by omega)] at hq
  simp (dsimp := false) (implicitDefEqProofs := false) (maxSteps := 1000000) (disch := omega) only [go_sem, Nat.reduceAdd, Nat.reduceMul, Nat.reduceEqDiff, Nat.reduceBEq, cond_true, cond_false, Nat.reduceLT, Nat.reduceLeDiff, Nat.reduceSub, Int.reduceToNat, Int.reduceLE, Int.reduceLT, Int.reduceEq, Int.reduceNe, Int.reduceAdd, Int.reduceSub, Int.reduceMul, Int.reduceNeg, UInt8.reduceToNat, decide_true, decide_false, decide_not, Int.cast_ofNat_Int, Int.natCast_add, Int.add_sub_cancel, Int.sub_add_cancel, Int.toNat_natCast, eq_self, not_true_eq_false, not_false_eq_true, h1, hM, hk1, hk2]
  have hL1 := keepA (M.set k _) { s with closed := true } (.cells [.int .i64 0, .int .i64 0, .int .i64 0] 30 0 false) rfl hLc
  have hO1 : Own M ((M.set k (.cells (lexCells (sl hk s.held.length) (sl tk s.toks.length) { s with closed := true }) 44 0 false)).alloc (.cells [.int .i64 0, .int .i64 0, .int .i64 0] 30 0 false)) F F := .al hw (.st hw (.inl Fk) (.refl M F))
  refine CF.by ((take_walk k s.opn { s with closed := true } F G _ N (hGl.own hL' hO1) hL1 (by omega) ⟨hs.1, hs.2, hs.3, hs.4⟩ hp).callF func15 rfl rfl) ?_
  rintro v M1 ⟨rfl, F1, hL2, hO2⟩
  have hok := take_ok s.opn (s := { s with closed := true }) (N := N) ⟨hs.1, hs.2, hs.3, hs.4⟩ hp
  simp only at hq
  generalize LexS.take { s with closed := true } s.opn = s1 at hq hL2 hok
  have hO3 := hO1.trans hw hO2
  have hL2' := hL2
  obtain ⟨hk3, tk3, hM3, hH3, hT3, hF3⟩ := hL2
  have hM3' := hM3
  simp only [lexCells] at hM3
  simp (dsimp := false) (implicitDefEqProofs := false) (maxSteps := 1000000) (disch := omega) only [go_sem, Nat.reduceAdd, Nat.reduceMul, Nat.reduceEqDiff, Nat.reduceBEq, cond_true, cond_false, Nat.reduceLT, Nat.reduceLeDiff, Nat.reduceSub, Int.reduceToNat, Int.reduceLE, Int.reduceLT, Int.reduceEq, Int.reduceNe, Int.reduceAdd, Int.reduceSub, Int.reduceMul, Int.reduceNeg, UInt8.reduceToNat, decide_true, decide_false, decide_not, Int.cast_ofNat_Int, Int.natCast_add, Int.add_sub_cancel, Int.sub_add_cancel, Int.toNat_natCast, eq_self, not_true_eq_false, not_false_eq_true, hM3]
  have hL4 : LexAt (M1.set k (.cells (lexCells (sl hk3 s1.held.length) (sl tk3 s1.toks.length) { s1 with opn := [] }) 44 0 false)) k F1 { s1 with opn := [] } := lexPut (s' := { s1 with opn := [] }) hM3' hH3 hT3 hF3 rfl rfl
  have hO4 : Own M (M1.set k (.cells (lexCells (sl hk3 s1.held.length) (sl tk3 s1.toks.length) { s1 with opn := [] }) 44 0 false)) F F1 := .st hw (.inl Fk) hO3
  have f0 : ¬ F M.next := fun h => by
    obtain ⟨cs, e, h'⟩ := hL'.ro h
    have := hw.lt h'; omega
  have f1 : ¬ F1 M.next := fun h => by
    rcases hO2.new _ h with h | h
    · exact f0 h
    · rw [next_alloc, next_set] at h; omega
  have n1 : M.next + 1 ≤ M1.next := by have := hO2.next; rw [next_alloc, next_set] at this; exact this
  have hp1 : M1.get M.next = some (.cells [.int .i64 0, .int .i64 0, .int .i64 0] 30 0 false) := hO2.keep M.next _ (get_alloc (by rw [next_set])) f0
  have hp4 : (M1.set k (.cells (lexCells (sl hk3 s1.held.length) (sl tk3 s1.toks.length) { s1 with opn := [] }) 44 0 false)).get M.next = some (.cells [.int .i64 0, .int .i64 0, .int .i64 0] 30 0 false) := by rw [get_set' hk2]; exact hp1
  -- what is told at the end
  have fin : ∀ (M4 : Mem) (F4 : Nat → Prop) (s4 : LexS), LexAt M4 k F4 s4 → Own M M4 F F4 → ¬ F4 M.next → M.next + 1 ≤ M4.next → M4.get M.next = some (.cells [.int .i64 0, .int .i64 0, .int .i64 0] 30 0 false) →
      X = ({ s4 with toks := [] }, s4.toks, s4.wrong, s4.whr) →
      CF prog G 16 [lp k] M4 (fun v M' => ∃ tk5, v = .tuple #[sl tk5 s4.toks.length, .int .i64 s4.wrong, s4.whr.v] ∧ M'.get M.next = some (.cells [.int .i64 0, .int .i64 0, .int .i64 0] 30 0 false) ∧
        ∀ a, LexAns k F M X.1 X.2.1 X.2.2.1 X.2.2.2 (.tuple #[sl tk5 s4.toks.length, .int .i64 s4.wrong, s4.whr.v]) (M'.set M.next a)) := by
    intro M4 F4 s4 hL5 hO5 f4 n4 hp5 hX
    refine CF.by ((told_walk k s4 F4 G M4 hL5).callF func16 rfl rfl) ?_
    rintro v M5 ⟨tk5, F5, rfl, hL6, hR, hD, hO6⟩
    have f5 : ¬ F5 M.next := fun h => by
      rcases hO6.new _ h with h | h
      · exact f4 h
      · omega
    refine ⟨tk5, rfl, hO6.keep _ _ hp5 f4, fun a => ?_⟩
    subst hX
    refine ⟨tk5, F5, rfl, hL6.away f5 _, Row.away hR (fun e => ?_) _, fun j e => ⟨(hD j e).1, ?_⟩, .st hw (.inr (Nat.le_refl _)) (hO5.trans hw hO6)⟩
    · rcases (hD _ e).2 with h | h
      · exact f4 h
      · omega
    · rcases (hD _ e).2 with h | h
      · exact hO5.new j h
      · exact .inr (by omega)
  refine Br.of (fun h3 => ?_) (fun h3 => ?_)
  · rw [if_pos (by omega)] at hq
    simp (dsimp := false) (implicitDefEqProofs := false) (maxSteps := 1000000) (disch := omega) only [go_sem, Nat.reduceAdd, Nat.reduceMul, Nat.reduceEqDiff, Nat.reduceBEq, cond_true, cond_false, Nat.reduceLT, Nat.reduceLeDiff, Nat.reduceSub, Int.reduceToNat, Int.reduceLE, Int.reduceLT, Int.reduceEq, Int.reduceNe, Int.reduceAdd, Int.reduceSub, Int.reduceMul, Int.reduceNeg, UInt8.reduceToNat, decide_true, decide_false, decide_not, Int.cast_ofNat_Int, Int.natCast_add, Int.add_sub_cancel, Int.sub_add_cancel, Int.toNat_natCast, eq_self, not_true_eq_false, not_false_eq_true]
    refine CF.by ((end_walk k { s1 with opn := [] } F1 G _ hL4 (by have := hok.1.held; show s1.held.length < _; omega) (by have := hok.1.toks; show s1.toks.length < _; omega)).callF func17 rfl rfl) ?_
    rintro v M4 ⟨rfl, F4, hL5, hO5⟩
    have f4 : ¬ F4 M.next := fun h => by
      rcases hO5.new _ h with h | h
      · exact f1 h
      · rw [next_set] at h; omega
    simp (dsimp := false) (implicitDefEqProofs := false) (maxSteps := 1000000) (disch := omega) only [go_sem, Nat.reduceAdd, Nat.reduceMul, Nat.reduceEqDiff, Nat.reduceBEq, cond_true, cond_false, Nat.reduceLT, Nat.reduceLeDiff, Nat.reduceSub, Int.reduceToNat, Int.reduceLE, Int.reduceLT, Int.reduceEq, Int.reduceNe, Int.reduceAdd, Int.reduceSub, Int.reduceMul, Int.reduceNeg, UInt8.reduceToNat, decide_true, decide_false, decide_not, Int.cast_ofNat_Int, Int.natCast_add, Int.add_sub_cancel, Int.sub_add_cancel, Int.toNat_natCast, eq_self, not_true_eq_false, not_false_eq_true]
    refine CF.by (fin M4 F4 _ hL5 (hO4.trans hw hO5) f4 (by have := hO5.next; rw [next_set] at this; omega) (hO5.keep _ _ hp4 f1) hq) ?_
    rintro v M5 ⟨tk5, rfl, hp6, hA⟩
    simp (dsimp := false) (implicitDefEqProofs := false) (maxSteps := 1000000) (disch := omega) only [go_sem, Nat.reduceAdd, Nat.reduceMul, Nat.reduceEqDiff, Nat.reduceBEq, cond_true, cond_false, Nat.reduceLT, Nat.reduceLeDiff, Nat.reduceSub, Int.reduceToNat, Int.reduceLE, Int.reduceLT, Int.reduceEq, Int.reduceNe, Int.reduceAdd, Int.reduceSub, Int.reduceMul, Int.reduceNeg, UInt8.reduceToNat, decide_true, decide_false, decide_not, Int.cast_ofNat_Int, Int.natCast_add, Int.add_sub_cancel, Int.sub_add_cancel, Int.toNat_natCast, eq_self, not_true_eq_false, not_false_eq_true, hp6, Pl.v]
    exact endAll (hA _)
  · rw [if_neg (by omega)] at hq
    simp (dsimp := false) (implicitDefEqProofs := false) (maxSteps := 1000000) (disch := omega) only [go_sem, Nat.reduceAdd, Nat.reduceMul, Nat.reduceEqDiff, Nat.reduceBEq, cond_true, cond_false, Nat.reduceLT, Nat.reduceLeDiff, Nat.reduceSub, Int.reduceToNat, Int.reduceLE, Int.reduceLT, Int.reduceEq, Int.reduceNe, Int.reduceAdd, Int.reduceSub, Int.reduceMul, Int.reduceNeg, UInt8.reduceToNat, decide_true, decide_false, decide_not, Int.cast_ofNat_Int, Int.natCast_add, Int.add_sub_cancel, Int.sub_add_cancel, Int.toNat_natCast, eq_self, not_true_eq_false, not_false_eq_true]
    refine CF.by (fin _ F1 _ hL4 hO4 f1 (by rw [next_set]; exact n1) hp4 hq) ?_
    rintro v M5 ⟨tk5, rfl, hp6, hA⟩
    simp (dsimp := false) (implicitDefEqProofs := false) (maxSteps := 1000000) (disch := omega) only [go_sem, Nat.reduceAdd, Nat.reduceMul, Nat.reduceEqDiff, Nat.reduceBEq, cond_true, cond_false, Nat.reduceLT, Nat.reduceLeDiff, Nat.reduceSub, Int.reduceToNat, Int.reduceLE, Int.reduceLT, Int.reduceEq, Int.reduceNe, Int.reduceAdd, Int.reduceSub, Int.reduceMul, Int.reduceNeg, UInt8.reduceToNat, decide_true, decide_false, decide_not, Int.cast_ofNat_Int, Int.natCast_add, Int.add_sub_cancel, Int.sub_add_cancel, Int.toNat_natCast, eq_self, not_true_eq_false, not_false_eq_true, hp6, Pl.v]
    exact endAll (hA _)
end Go.Proofs.Tryd
