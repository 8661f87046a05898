/-
  Walks of the seat of LexCuts, part 17: the lexer between quotes, between tokens.
-/
import Derived.Test.YtpljlblmagodlaaDoorW16
set_option linter.unusedVariables false
set_option linter.unusedSimpArgs false
set_option linter.unusedSimpArgs false
set_option maxRecDepth 100000
set_option maxHeartbeats 4000000
namespace Go.Proofs.Tryd
open Go Go.AL
theorem fail_lex (k e : Nat) (p : Pl) (s : LexS) (F : Nat → Prop) (G : Nat) (M : Mem) (hL : LexAt M k F s) : ACalls prog G 28 [lp k, .int .i64 e, p.v] M (LexTo k F M (.tuple #[]) (s.fail e p)) := by
  obtain ⟨hk, tk, hM, hH, hT, hF⟩ := hL
  have hkh : hk ≠ some k := hH.ne hM (by decide)
  have hkt : tk ≠ some k := hT.ne hM (by decide)
  refine (fail_walk k e p _ _ s G M hM).mono ?_
  rintro v M' ⟨rfl, h2, h3⟩
  refine ⟨rfl, F, ⟨hk, tk, h2, hH.keep fun j ob e1 e2 => h3.keep j ob e2 (by rintro rfl; exact hkh e1), hT.keep fun j ob e1 e2 => h3.keep j ob e2 (by rintro rfl; exact hkt e1), hF⟩, (h3.more (F := (· = k)) (H := F) ?_).to fun j hj => .inl hj⟩
  rintro j rfl; exact (hF _).2 (.inl rfl)
theorem lexPut {M : Mem} {k n m : Nat} {F : Nat → Prop} {hk tk : Option Nat} {s s' : LexS} (hM : M.get k = some (.cells (lexCells (sl hk n) (sl tk m) s) 44 0 false)) (hH : Row M hk (bcs s.held) 5) (hT : Row M tk (tkCells s.toks) 39)
    (hF : ∀ j, F j ↔ j = k ∨ some j = hk ∨ some j = tk) (e1 : s'.held = s.held) (e2 : s'.toks = s.toks) : LexAt (M.set k (.cells (lexCells (sl hk s'.held.length) (sl tk s'.toks.length) s') 44 0 false)) k F s' := by
  have hkh : hk ≠ some k := hH.ne hM (by decide)
  have hkt : tk ≠ some k := hT.ne hM (by decide)
  refine ⟨hk, tk, get_set, ?_, ?_, hF⟩
  · rw [e1]; exact hH.keep fun j ob h1 h2 => by rw [get_set' (by rintro rfl; exact hkh h1)]; exact h2
  · rw [e2]; exact hT.keep fun j ob h1 h2 => by rw [get_set' (by rintro rfl; exact hkt h1)]; exact h2
theorem LexTo.go {k : Nat} {F F' : Nat → Prop} {M M' : Mem} {u v : Value} {s : LexS} {M'' : Mem} (hw : WF M) (h : Own M M' F F') (h2 : LexTo k F' M' u s v M'') : LexTo k F M u s v M'' := by
  obtain ⟨h0, F'', h3, h4⟩ := h2
  exact ⟨h0, F'', h3, h.trans hw h4⟩
def LexS.quoted (s : LexS) (p : Nat) (b : List UInt8) (good : Bool) : LexS :=
  if p = 10 then s.fail 101 s.beg
  else if ¬ (s.held.length + b.length ≤ 65535) then s.fail 103 s.beg
  else if ctl p good = true ∨ (s.state = 4 ∧ p = 39) ∨ (s.state = 5 ∧ p ≠ 39) then { s with held := s.held ++ b }.fail 102 s.here
  else if s.state = 4 then { s with held := s.held ++ b, state := 5 }
  else if s.state = 5 then { s with held := s.held ++ b }.tell 5
  else if p = 34 then { s with held := s.held ++ b }.tell 4
  else { s with held := s.held ++ b }
theorem quoted_walk (k p : Nat) (b : List UInt8) (good : Bool) (s : LexS) (F : Nat → Prop) (G : Nat) (M : Mem) (hL : LexAt M k F s) (hb : 0 < b.length) (hb2 : b.length < 1000) (hh : s.held.length < 100000) (ht : s.toks.length < 1000000000) (hp : p < 1114112) :
    ACalls prog G 54 [lp k, .int .i32 p, .string (bs b), .bool good] M (LexTo k F M (.tuple #[]) (s.quoted p b good)) := by
  have hL' := hL
  obtain ⟨hk, tk, hM, hH, hT, hF⟩ := hL
  refine ACalls.walk (N := 78) (rs := []) func54 rfl rfl (by kernel_rfl) (by kernel_rfl) fun hw => ?_
  simp only [lexCells] at hM
  simp (dsimp := false) (implicitDefEqProofs := false) (maxSteps := 1000000) (disch := omega) only [go_sem, Nat.reduceAdd, Nat.reduceMul, Nat.reduceEqDiff, Nat.reduceBEq, cond_true, cond_false, Nat.reduceLT, Nat.reduceLeDiff, Nat.reduceSub, Int.reduceToNat, Int.reduceLE, Int.reduceLT, Int.reduceEq, Int.reduceNe, Int.reduceAdd, Int.reduceSub, Int.reduceMul, Int.reduceNeg, UInt8.reduceToNat, decide_true, decide_false, decide_not, Int.cast_ofNat_Int, Int.natCast_add, Int.add_sub_cancel, Int.sub_add_cancel, Int.toNat_natCast, eq_self, not_true_eq_false, not_false_eq_true, hM]
  refine Br.of (fun h1 => ?_) (fun h1 => ?_)
  · simp (dsimp := false) (implicitDefEqProofs := false) (maxSteps := 1000000) (disch := omega) only [go_sem, Nat.reduceAdd, Nat.reduceMul, Nat.reduceEqDiff, Nat.reduceBEq, cond_true, cond_false, Nat.reduceLT, Nat.reduceLeDiff, Nat.reduceSub, Int.reduceToNat, Int.reduceLE, Int.reduceLT, Int.reduceEq, Int.reduceNe, Int.reduceAdd, Int.reduceSub, Int.reduceMul, Int.reduceNeg, UInt8.reduceToNat, decide_true, decide_false, decide_not, Int.cast_ofNat_Int, Int.natCast_add, Int.add_sub_cancel, Int.sub_add_cancel, Int.toNat_natCast, eq_self, not_true_eq_false, not_false_eq_true, hM]
    refine CF.by ((fail_lex k 101 s.beg s F G M hL').callF func28 rfl rfl) ?_
    intro v M' h
    simp (dsimp := false) (implicitDefEqProofs := false) (maxSteps := 1000000) (disch := omega) only [go_sem, Nat.reduceAdd, Nat.reduceMul, Nat.reduceEqDiff, Nat.reduceBEq, cond_true, cond_false, Nat.reduceLT, Nat.reduceLeDiff, Nat.reduceSub, Int.reduceToNat, Int.reduceLE, Int.reduceLT, Int.reduceEq, Int.reduceNe, Int.reduceAdd, Int.reduceSub, Int.reduceMul, Int.reduceNeg, UInt8.reduceToNat, decide_true, decide_false, decide_not, Int.cast_ofNat_Int, Int.natCast_add, Int.add_sub_cancel, Int.sub_add_cancel, Int.toNat_natCast, eq_self, not_true_eq_false, not_false_eq_true]
    exact endAll (by rw [LexS.quoted, if_pos (by omega)]; exact ⟨rfl, h.2⟩)
  simp (dsimp := false) (implicitDefEqProofs := false) (maxSteps := 1000000) (disch := omega) only [go_sem, Nat.reduceAdd, Nat.reduceMul, Nat.reduceEqDiff, Nat.reduceBEq, cond_true, cond_false, Nat.reduceLT, Nat.reduceLeDiff, Nat.reduceSub, Int.reduceToNat, Int.reduceLE, Int.reduceLT, Int.reduceEq, Int.reduceNe, Int.reduceAdd, Int.reduceSub, Int.reduceMul, Int.reduceNeg, UInt8.reduceToNat, decide_true, decide_false, decide_not, Int.cast_ofNat_Int, Int.natCast_add, Int.add_sub_cancel, Int.sub_add_cancel, Int.toNat_natCast, eq_self, not_true_eq_false, not_false_eq_true]
  refine CF.by ((more_walk k s b F G M hL' hb (by omega) (by omega)).callF func53 rfl rfl) ?_
  rintro v M1 ⟨rfl, F1, hL1, hO1⟩
  simp (dsimp := false) (implicitDefEqProofs := false) (maxSteps := 1000000) (disch := omega) only [go_sem, Nat.reduceAdd, Nat.reduceMul, Nat.reduceEqDiff, Nat.reduceBEq, cond_true, cond_false, Nat.reduceLT, Nat.reduceLeDiff, Nat.reduceSub, Int.reduceToNat, Int.reduceLE, Int.reduceLT, Int.reduceEq, Int.reduceNe, Int.reduceAdd, Int.reduceSub, Int.reduceMul, Int.reduceNeg, UInt8.reduceToNat, decide_true, decide_false, decide_not, Int.cast_ofNat_Int, Int.natCast_add, Int.add_sub_cancel, Int.sub_add_cancel, Int.toNat_natCast, eq_self, not_true_eq_false, not_false_eq_true]
  refine Br.of (fun h2 => ?_) (fun h2 => ?_)
  rotate_left
  · simp (dsimp := false) (implicitDefEqProofs := false) (maxSteps := 1000000) (disch := omega) only [go_sem, Nat.reduceAdd, Nat.reduceMul, Nat.reduceEqDiff, Nat.reduceBEq, cond_true, cond_false, Nat.reduceLT, Nat.reduceLeDiff, Nat.reduceSub, Int.reduceToNat, Int.reduceLE, Int.reduceLT, Int.reduceEq, Int.reduceNe, Int.reduceAdd, Int.reduceSub, Int.reduceMul, Int.reduceNeg, UInt8.reduceToNat, decide_true, decide_false, decide_not, Int.cast_ofNat_Int, Int.natCast_add, Int.add_sub_cancel, Int.sub_add_cancel, Int.toNat_natCast, eq_self, not_true_eq_false, not_false_eq_true]
    rw [if_neg h2] at hL1
    exact endAll ⟨rfl, F1, by rw [LexS.quoted, if_neg (by omega), if_pos h2]; exact hL1, hO1⟩
  rw [if_pos h2] at hL1
  have hq : s.quoted p b good = if ctl p good = true ∨ (s.state = 4 ∧ p = 39) ∨ (s.state = 5 ∧ p ≠ 39) then { s with held := s.held ++ b }.fail 102 s.here
      else if s.state = 4 then { s with held := s.held ++ b, state := 5 }
      else if s.state = 5 then { s with held := s.held ++ b }.tell 5
      else if p = 34 then { s with held := s.held ++ b }.tell 4
      else { s with held := s.held ++ b } := by rw [LexS.quoted, if_neg (by omega), if_neg (by omega)]
  generalize s.quoted p b good = X at hq ⊢
  have hL1' := hL1
  obtain ⟨hk1, tk1, hM1, hH1, hT1, hF1⟩ := hL1
  have hM1' := hM1
  simp only [lexCells] at hM1
  simp (dsimp := false) (implicitDefEqProofs := false) (maxSteps := 1000000) (disch := omega) only [go_sem, Nat.reduceAdd, Nat.reduceMul, Nat.reduceEqDiff, Nat.reduceBEq, cond_true, cond_false, Nat.reduceLT, Nat.reduceLeDiff, Nat.reduceSub, Int.reduceToNat, Int.reduceLE, Int.reduceLT, Int.reduceEq, Int.reduceNe, Int.reduceAdd, Int.reduceSub, Int.reduceMul, Int.reduceNeg, UInt8.reduceToNat, decide_true, decide_false, decide_not, Int.cast_ofNat_Int, Int.natCast_add, Int.add_sub_cancel, Int.sub_add_cancel, Int.toNat_natCast, eq_self, not_true_eq_false, not_false_eq_true]
  have hhl : (s.held ++ b).length < 1000000000 := by simp; omega
  have fin : ∀ (s' : LexS) (v : Value) (M' : Mem), X = s' → LexTo k F1 M1 (.tuple #[]) s' v M' → LexTo k F M (.tuple #[]) X v M' := by
    rintro s' v M' rfl h
    exact h.go hw hO1
  refine Br.mk (fun h3 => ?_) (fun h3 => ?_)
  · subst h3
    simp (dsimp := false) (implicitDefEqProofs := false) (maxSteps := 1000000) (disch := omega) only [go_sem, Nat.reduceAdd, Nat.reduceMul, Nat.reduceEqDiff, Nat.reduceBEq, cond_true, cond_false, Nat.reduceLT, Nat.reduceLeDiff, Nat.reduceSub, Int.reduceToNat, Int.reduceLE, Int.reduceLT, Int.reduceEq, Int.reduceNe, Int.reduceAdd, Int.reduceSub, Int.reduceMul, Int.reduceNeg, UInt8.reduceToNat, decide_true, decide_false, decide_not, Int.cast_ofNat_Int, Int.natCast_add, Int.add_sub_cancel, Int.sub_add_cancel, Int.toNat_natCast, eq_self, not_true_eq_false, not_false_eq_true]
    refine Br.of (fun h4 => ?_) (fun h4 => ?_)
    · simp (dsimp := false) (implicitDefEqProofs := false) (maxSteps := 1000000) (disch := omega) only [go_sem, Nat.reduceAdd, Nat.reduceMul, Nat.reduceEqDiff, Nat.reduceBEq, cond_true, cond_false, Nat.reduceLT, Nat.reduceLeDiff, Nat.reduceSub, Int.reduceToNat, Int.reduceLE, Int.reduceLT, Int.reduceEq, Int.reduceNe, Int.reduceAdd, Int.reduceSub, Int.reduceMul, Int.reduceNeg, UInt8.reduceToNat, decide_true, decide_false, decide_not, Int.cast_ofNat_Int, Int.natCast_add, Int.add_sub_cancel, Int.sub_add_cancel, Int.toNat_natCast, eq_self, not_true_eq_false, not_false_eq_true, h4, hM1]
      refine CF.by ((fail_lex k 102 s.here _ F1 G M1 hL1').callF func28 rfl rfl) ?_
      intro v M' h
      obtain ⟨rfl, _⟩ := id h
      simp (dsimp := false) (implicitDefEqProofs := false) (maxSteps := 1000000) (disch := omega) only [go_sem, Nat.reduceAdd, Nat.reduceMul, Nat.reduceEqDiff, Nat.reduceBEq, cond_true, cond_false, Nat.reduceLT, Nat.reduceLeDiff, Nat.reduceSub, Int.reduceToNat, Int.reduceLE, Int.reduceLT, Int.reduceEq, Int.reduceNe, Int.reduceAdd, Int.reduceSub, Int.reduceMul, Int.reduceNeg, UInt8.reduceToNat, decide_true, decide_false, decide_not, Int.cast_ofNat_Int, Int.natCast_add, Int.add_sub_cancel, Int.sub_add_cancel, Int.toNat_natCast, eq_self, not_true_eq_false, not_false_eq_true]
      exact endAll (fin _ _ _ (by rw [hq, if_pos (.inl (by simp [ctl]; omega))]) h)
    simp (dsimp := false) (implicitDefEqProofs := false) (maxSteps := 1000000) (disch := omega) only [go_sem, Nat.reduceAdd, Nat.reduceMul, Nat.reduceEqDiff, Nat.reduceBEq, cond_true, cond_false, Nat.reduceLT, Nat.reduceLeDiff, Nat.reduceSub, Int.reduceToNat, Int.reduceLE, Int.reduceLT, Int.reduceEq, Int.reduceNe, Int.reduceAdd, Int.reduceSub, Int.reduceMul, Int.reduceNeg, UInt8.reduceToNat, decide_true, decide_false, decide_not, Int.cast_ofNat_Int, Int.natCast_add, Int.add_sub_cancel, Int.sub_add_cancel, Int.toNat_natCast, eq_self, not_true_eq_false, not_false_eq_true, h4]
    refine Br.of (fun h5 => ?_) (fun h5 => ?_)
    · simp (dsimp := false) (implicitDefEqProofs := false) (maxSteps := 1000000) (disch := omega) only [go_sem, Nat.reduceAdd, Nat.reduceMul, Nat.reduceEqDiff, Nat.reduceBEq, cond_true, cond_false, Nat.reduceLT, Nat.reduceLeDiff, Nat.reduceSub, Int.reduceToNat, Int.reduceLE, Int.reduceLT, Int.reduceEq, Int.reduceNe, Int.reduceAdd, Int.reduceSub, Int.reduceMul, Int.reduceNeg, UInt8.reduceToNat, decide_true, decide_false, decide_not, Int.cast_ofNat_Int, Int.natCast_add, Int.add_sub_cancel, Int.sub_add_cancel, Int.toNat_natCast, eq_self, not_true_eq_false, not_false_eq_true, h4, h5, hM1]
      refine CF.by ((fail_lex k 102 s.here _ F1 G M1 hL1').callF func28 rfl rfl) ?_
      intro v M' h
      obtain ⟨rfl, _⟩ := id h
      simp (dsimp := false) (implicitDefEqProofs := false) (maxSteps := 1000000) (disch := omega) only [go_sem, Nat.reduceAdd, Nat.reduceMul, Nat.reduceEqDiff, Nat.reduceBEq, cond_true, cond_false, Nat.reduceLT, Nat.reduceLeDiff, Nat.reduceSub, Int.reduceToNat, Int.reduceLE, Int.reduceLT, Int.reduceEq, Int.reduceNe, Int.reduceAdd, Int.reduceSub, Int.reduceMul, Int.reduceNeg, UInt8.reduceToNat, decide_true, decide_false, decide_not, Int.cast_ofNat_Int, Int.natCast_add, Int.add_sub_cancel, Int.sub_add_cancel, Int.toNat_natCast, eq_self, not_true_eq_false, not_false_eq_true]
      exact endAll (fin _ _ _ (by rw [hq, if_pos (.inl (by simp [ctl]; omega))]) h)
    have hc : ctl p true = false := by simp [ctl]; omega
    simp (dsimp := false) (implicitDefEqProofs := false) (maxSteps := 1000000) (disch := omega) only [go_sem, Nat.reduceAdd, Nat.reduceMul, Nat.reduceEqDiff, Nat.reduceBEq, cond_true, cond_false, Nat.reduceLT, Nat.reduceLeDiff, Nat.reduceSub, Int.reduceToNat, Int.reduceLE, Int.reduceLT, Int.reduceEq, Int.reduceNe, Int.reduceAdd, Int.reduceSub, Int.reduceMul, Int.reduceNeg, UInt8.reduceToNat, decide_true, decide_false, decide_not, Int.cast_ofNat_Int, Int.natCast_add, Int.add_sub_cancel, Int.sub_add_cancel, Int.toNat_natCast, eq_self, not_true_eq_false, not_false_eq_true, h4, h5, hM1]
    refine Br.of (fun h6 => ?_) (fun h6 => ?_)
    · simp (dsimp := false) (implicitDefEqProofs := false) (maxSteps := 1000000) (disch := omega) only [go_sem, Nat.reduceAdd, Nat.reduceMul, Nat.reduceEqDiff, Nat.reduceBEq, cond_true, cond_false, Nat.reduceLT, Nat.reduceLeDiff, Nat.reduceSub, Int.reduceToNat, Int.reduceLE, Int.reduceLT, Int.reduceEq, Int.reduceNe, Int.reduceAdd, Int.reduceSub, Int.reduceMul, Int.reduceNeg, UInt8.reduceToNat, decide_true, decide_false, decide_not, Int.cast_ofNat_Int, Int.natCast_add, Int.add_sub_cancel, Int.sub_add_cancel, Int.toNat_natCast, eq_self, not_true_eq_false, not_false_eq_true, h6]
      refine Br.of (fun h7 => ?_) (fun h7 => ?_)
      · simp (dsimp := false) (implicitDefEqProofs := false) (maxSteps := 1000000) (disch := omega) only [go_sem, Nat.reduceAdd, Nat.reduceMul, Nat.reduceEqDiff, Nat.reduceBEq, cond_true, cond_false, Nat.reduceLT, Nat.reduceLeDiff, Nat.reduceSub, Int.reduceToNat, Int.reduceLE, Int.reduceLT, Int.reduceEq, Int.reduceNe, Int.reduceAdd, Int.reduceSub, Int.reduceMul, Int.reduceNeg, UInt8.reduceToNat, decide_true, decide_false, decide_not, Int.cast_ofNat_Int, Int.natCast_add, Int.add_sub_cancel, Int.sub_add_cancel, Int.toNat_natCast, eq_self, not_true_eq_false, not_false_eq_true, h6, h7, hM1]
        refine CF.by ((fail_lex k 102 s.here _ F1 G M1 hL1').callF func28 rfl rfl) ?_
        intro v M' h
        obtain ⟨rfl, _⟩ := id h
        simp (dsimp := false) (implicitDefEqProofs := false) (maxSteps := 1000000) (disch := omega) only [go_sem, Nat.reduceAdd, Nat.reduceMul, Nat.reduceEqDiff, Nat.reduceBEq, cond_true, cond_false, Nat.reduceLT, Nat.reduceLeDiff, Nat.reduceSub, Int.reduceToNat, Int.reduceLE, Int.reduceLT, Int.reduceEq, Int.reduceNe, Int.reduceAdd, Int.reduceSub, Int.reduceMul, Int.reduceNeg, UInt8.reduceToNat, decide_true, decide_false, decide_not, Int.cast_ofNat_Int, Int.natCast_add, Int.add_sub_cancel, Int.sub_add_cancel, Int.toNat_natCast, eq_self, not_true_eq_false, not_false_eq_true]
        exact endAll (fin _ _ _ (by rw [hq, if_pos (.inr (.inl (by omega)))]) h)
      · simp (dsimp := false) (implicitDefEqProofs := false) (maxSteps := 1000000) (disch := omega) only [go_sem, Nat.reduceAdd, Nat.reduceMul, Nat.reduceEqDiff, Nat.reduceBEq, cond_true, cond_false, Nat.reduceLT, Nat.reduceLeDiff, Nat.reduceSub, Int.reduceToNat, Int.reduceLE, Int.reduceLT, Int.reduceEq, Int.reduceNe, Int.reduceAdd, Int.reduceSub, Int.reduceMul, Int.reduceNeg, UInt8.reduceToNat, decide_true, decide_false, decide_not, Int.cast_ofNat_Int, Int.natCast_add, Int.add_sub_cancel, Int.sub_add_cancel, Int.toNat_natCast, eq_self, not_true_eq_false, not_false_eq_true, h6, h7, hM1]
        rw [if_neg (by rintro (h | h | h); rw [hc] at h; cases h; omega; omega), if_pos (by omega)] at hq
        exact endAll ⟨rfl, F1, by rw [hq]; exact lexPut (s' := { s with held := s.held ++ b, state := 5 }) hM1' hH1 hT1 hF1 rfl rfl, .st hw (.inl ((hF k).2 (.inl rfl))) hO1⟩
    · simp (dsimp := false) (implicitDefEqProofs := false) (maxSteps := 1000000) (disch := omega) only [go_sem, Nat.reduceAdd, Nat.reduceMul, Nat.reduceEqDiff, Nat.reduceBEq, cond_true, cond_false, Nat.reduceLT, Nat.reduceLeDiff, Nat.reduceSub, Int.reduceToNat, Int.reduceLE, Int.reduceLT, Int.reduceEq, Int.reduceNe, Int.reduceAdd, Int.reduceSub, Int.reduceMul, Int.reduceNeg, UInt8.reduceToNat, decide_true, decide_false, decide_not, Int.cast_ofNat_Int, Int.natCast_add, Int.add_sub_cancel, Int.sub_add_cancel, Int.toNat_natCast, eq_self, not_true_eq_false, not_false_eq_true, h6, hM1]
      refine Br.of (fun h8 => ?_) (fun h8 => ?_)
      · simp (dsimp := false) (implicitDefEqProofs := false) (maxSteps := 1000000) (disch := omega) only [go_sem, Nat.reduceAdd, Nat.reduceMul, Nat.reduceEqDiff, Nat.reduceBEq, cond_true, cond_false, Nat.reduceLT, Nat.reduceLeDiff, Nat.reduceSub, Int.reduceToNat, Int.reduceLE, Int.reduceLT, Int.reduceEq, Int.reduceNe, Int.reduceAdd, Int.reduceSub, Int.reduceMul, Int.reduceNeg, UInt8.reduceToNat, decide_true, decide_false, decide_not, Int.cast_ofNat_Int, Int.natCast_add, Int.add_sub_cancel, Int.sub_add_cancel, Int.toNat_natCast, eq_self, not_true_eq_false, not_false_eq_true, h8]
        refine Br.of (fun h7 => ?_) (fun h7 => ?_)
        · simp (dsimp := false) (implicitDefEqProofs := false) (maxSteps := 1000000) (disch := omega) only [go_sem, Nat.reduceAdd, Nat.reduceMul, Nat.reduceEqDiff, Nat.reduceBEq, cond_true, cond_false, Nat.reduceLT, Nat.reduceLeDiff, Nat.reduceSub, Int.reduceToNat, Int.reduceLE, Int.reduceLT, Int.reduceEq, Int.reduceNe, Int.reduceAdd, Int.reduceSub, Int.reduceMul, Int.reduceNeg, UInt8.reduceToNat, decide_true, decide_false, decide_not, Int.cast_ofNat_Int, Int.natCast_add, Int.add_sub_cancel, Int.sub_add_cancel, Int.toNat_natCast, eq_self, not_true_eq_false, not_false_eq_true, h6, h7, h8, hM1]
          refine CF.by ((tell_walk k 5 _ F1 G M1 hL1' hhl ht (by omega)).callF func27 rfl rfl) ?_
          intro v M' h
          obtain ⟨rfl, _⟩ := id h
          simp (dsimp := false) (implicitDefEqProofs := false) (maxSteps := 1000000) (disch := omega) only [go_sem, Nat.reduceAdd, Nat.reduceMul, Nat.reduceEqDiff, Nat.reduceBEq, cond_true, cond_false, Nat.reduceLT, Nat.reduceLeDiff, Nat.reduceSub, Int.reduceToNat, Int.reduceLE, Int.reduceLT, Int.reduceEq, Int.reduceNe, Int.reduceAdd, Int.reduceSub, Int.reduceMul, Int.reduceNeg, UInt8.reduceToNat, decide_true, decide_false, decide_not, Int.cast_ofNat_Int, Int.natCast_add, Int.add_sub_cancel, Int.sub_add_cancel, Int.toNat_natCast, eq_self, not_true_eq_false, not_false_eq_true]
          exact endAll (fin _ _ _ (by rw [hq, if_neg (by rintro (h | h | h); rw [hc] at h; cases h; omega; omega), if_neg (by omega), if_pos (by omega)]) h)
        · simp (dsimp := false) (implicitDefEqProofs := false) (maxSteps := 1000000) (disch := omega) only [go_sem, Nat.reduceAdd, Nat.reduceMul, Nat.reduceEqDiff, Nat.reduceBEq, cond_true, cond_false, Nat.reduceLT, Nat.reduceLeDiff, Nat.reduceSub, Int.reduceToNat, Int.reduceLE, Int.reduceLT, Int.reduceEq, Int.reduceNe, Int.reduceAdd, Int.reduceSub, Int.reduceMul, Int.reduceNeg, UInt8.reduceToNat, decide_true, decide_false, decide_not, Int.cast_ofNat_Int, Int.natCast_add, Int.add_sub_cancel, Int.sub_add_cancel, Int.toNat_natCast, eq_self, not_true_eq_false, not_false_eq_true, h6, h7, h8, hM1]
          refine CF.by ((fail_lex k 102 s.here _ F1 G M1 hL1').callF func28 rfl rfl) ?_
          intro v M' h
          obtain ⟨rfl, _⟩ := id h
          simp (dsimp := false) (implicitDefEqProofs := false) (maxSteps := 1000000) (disch := omega) only [go_sem, Nat.reduceAdd, Nat.reduceMul, Nat.reduceEqDiff, Nat.reduceBEq, cond_true, cond_false, Nat.reduceLT, Nat.reduceLeDiff, Nat.reduceSub, Int.reduceToNat, Int.reduceLE, Int.reduceLT, Int.reduceEq, Int.reduceNe, Int.reduceAdd, Int.reduceSub, Int.reduceMul, Int.reduceNeg, UInt8.reduceToNat, decide_true, decide_false, decide_not, Int.cast_ofNat_Int, Int.natCast_add, Int.add_sub_cancel, Int.sub_add_cancel, Int.toNat_natCast, eq_self, not_true_eq_false, not_false_eq_true]
          exact endAll (fin _ _ _ (by rw [hq, if_pos (.inr (.inr (by omega)))]) h)
      · simp (dsimp := false) (implicitDefEqProofs := false) (maxSteps := 1000000) (disch := omega) only [go_sem, Nat.reduceAdd, Nat.reduceMul, Nat.reduceEqDiff, Nat.reduceBEq, cond_true, cond_false, Nat.reduceLT, Nat.reduceLeDiff, Nat.reduceSub, Int.reduceToNat, Int.reduceLE, Int.reduceLT, Int.reduceEq, Int.reduceNe, Int.reduceAdd, Int.reduceSub, Int.reduceMul, Int.reduceNeg, UInt8.reduceToNat, decide_true, decide_false, decide_not, Int.cast_ofNat_Int, Int.natCast_add, Int.add_sub_cancel, Int.sub_add_cancel, Int.toNat_natCast, eq_self, not_true_eq_false, not_false_eq_true, h6, h8, hM1]
        rw [if_neg (by rintro (h | h | h); rw [hc] at h; cases h; omega; omega), if_neg (by omega), if_neg (by omega)] at hq
        refine Br.of (fun h9 => ?_) (fun h9 => ?_)
        · simp (dsimp := false) (implicitDefEqProofs := false) (maxSteps := 1000000) (disch := omega) only [go_sem, Nat.reduceAdd, Nat.reduceMul, Nat.reduceEqDiff, Nat.reduceBEq, cond_true, cond_false, Nat.reduceLT, Nat.reduceLeDiff, Nat.reduceSub, Int.reduceToNat, Int.reduceLE, Int.reduceLT, Int.reduceEq, Int.reduceNe, Int.reduceAdd, Int.reduceSub, Int.reduceMul, Int.reduceNeg, UInt8.reduceToNat, decide_true, decide_false, decide_not, Int.cast_ofNat_Int, Int.natCast_add, Int.add_sub_cancel, Int.sub_add_cancel, Int.toNat_natCast, eq_self, not_true_eq_false, not_false_eq_true]
          refine CF.by ((tell_walk k 4 _ F1 G M1 hL1' hhl ht (by omega)).callF func27 rfl rfl) ?_
          intro v M' h
          obtain ⟨rfl, _⟩ := id h
          simp (dsimp := false) (implicitDefEqProofs := false) (maxSteps := 1000000) (disch := omega) only [go_sem, Nat.reduceAdd, Nat.reduceMul, Nat.reduceEqDiff, Nat.reduceBEq, cond_true, cond_false, Nat.reduceLT, Nat.reduceLeDiff, Nat.reduceSub, Int.reduceToNat, Int.reduceLE, Int.reduceLT, Int.reduceEq, Int.reduceNe, Int.reduceAdd, Int.reduceSub, Int.reduceMul, Int.reduceNeg, UInt8.reduceToNat, decide_true, decide_false, decide_not, Int.cast_ofNat_Int, Int.natCast_add, Int.add_sub_cancel, Int.sub_add_cancel, Int.toNat_natCast, eq_self, not_true_eq_false, not_false_eq_true]
          exact endAll (fin _ _ _ (by rw [hq, if_pos (by omega)]) h)
        · simp (dsimp := false) (implicitDefEqProofs := false) (maxSteps := 1000000) (disch := omega) only [go_sem, Nat.reduceAdd, Nat.reduceMul, Nat.reduceEqDiff, Nat.reduceBEq, cond_true, cond_false, Nat.reduceLT, Nat.reduceLeDiff, Nat.reduceSub, Int.reduceToNat, Int.reduceLE, Int.reduceLT, Int.reduceEq, Int.reduceNe, Int.reduceAdd, Int.reduceSub, Int.reduceMul, Int.reduceNeg, UInt8.reduceToNat, decide_true, decide_false, decide_not, Int.cast_ofNat_Int, Int.natCast_add, Int.add_sub_cancel, Int.sub_add_cancel, Int.toNat_natCast, eq_self, not_true_eq_false, not_false_eq_true]
          exact endAll ⟨rfl, F1, by rw [hq, if_neg (by omega)]; exact hL1', hO1⟩
  · have hc : ctl p good = false := by rw [h3]; rfl
    simp (dsimp := false) (implicitDefEqProofs := false) (maxSteps := 1000000) (disch := omega) only [go_sem, Nat.reduceAdd, Nat.reduceMul, Nat.reduceEqDiff, Nat.reduceBEq, cond_true, cond_false, Nat.reduceLT, Nat.reduceLeDiff, Nat.reduceSub, Int.reduceToNat, Int.reduceLE, Int.reduceLT, Int.reduceEq, Int.reduceNe, Int.reduceAdd, Int.reduceSub, Int.reduceMul, Int.reduceNeg, UInt8.reduceToNat, decide_true, decide_false, decide_not, Int.cast_ofNat_Int, Int.natCast_add, Int.add_sub_cancel, Int.sub_add_cancel, Int.toNat_natCast, eq_self, not_true_eq_false, not_false_eq_true, h3, hM1]
    refine Br.of (fun h6 => ?_) (fun h6 => ?_)
    · simp (dsimp := false) (implicitDefEqProofs := false) (maxSteps := 1000000) (disch := omega) only [go_sem, Nat.reduceAdd, Nat.reduceMul, Nat.reduceEqDiff, Nat.reduceBEq, cond_true, cond_false, Nat.reduceLT, Nat.reduceLeDiff, Nat.reduceSub, Int.reduceToNat, Int.reduceLE, Int.reduceLT, Int.reduceEq, Int.reduceNe, Int.reduceAdd, Int.reduceSub, Int.reduceMul, Int.reduceNeg, UInt8.reduceToNat, decide_true, decide_false, decide_not, Int.cast_ofNat_Int, Int.natCast_add, Int.add_sub_cancel, Int.sub_add_cancel, Int.toNat_natCast, eq_self, not_true_eq_false, not_false_eq_true, h6]
      refine Br.of (fun h7 => ?_) (fun h7 => ?_)
      · simp (dsimp := false) (implicitDefEqProofs := false) (maxSteps := 1000000) (disch := omega) only [go_sem, Nat.reduceAdd, Nat.reduceMul, Nat.reduceEqDiff, Nat.reduceBEq, cond_true, cond_false, Nat.reduceLT, Nat.reduceLeDiff, Nat.reduceSub, Int.reduceToNat, Int.reduceLE, Int.reduceLT, Int.reduceEq, Int.reduceNe, Int.reduceAdd, Int.reduceSub, Int.reduceMul, Int.reduceNeg, UInt8.reduceToNat, decide_true, decide_false, decide_not, Int.cast_ofNat_Int, Int.natCast_add, Int.add_sub_cancel, Int.sub_add_cancel, Int.toNat_natCast, eq_self, not_true_eq_false, not_false_eq_true, h6, h7, hM1]
        refine CF.by ((fail_lex k 102 s.here _ F1 G M1 hL1').callF func28 rfl rfl) ?_
        intro v M' h
        obtain ⟨rfl, _⟩ := id h
        simp (dsimp := false) (implicitDefEqProofs := false) (maxSteps := 1000000) (disch := omega) only [go_sem, Nat.reduceAdd, Nat.reduceMul, Nat.reduceEqDiff, Nat.reduceBEq, cond_true, cond_false, Nat.reduceLT, Nat.reduceLeDiff, Nat.reduceSub, Int.reduceToNat, Int.reduceLE, Int.reduceLT, Int.reduceEq, Int.reduceNe, Int.reduceAdd, Int.reduceSub, Int.reduceMul, Int.reduceNeg, UInt8.reduceToNat, decide_true, decide_false, decide_not, Int.cast_ofNat_Int, Int.natCast_add, Int.add_sub_cancel, Int.sub_add_cancel, Int.toNat_natCast, eq_self, not_true_eq_false, not_false_eq_true]
        exact endAll (fin _ _ _ (by rw [hq, if_pos (.inr (.inl (by omega)))]) h)
      · simp (dsimp := false) (implicitDefEqProofs := false) (maxSteps := 1000000) (disch := omega) only [go_sem, Nat.reduceAdd, Nat.reduceMul, Nat.reduceEqDiff, Nat.reduceBEq, cond_true, cond_false, Nat.reduceLT, Nat.reduceLeDiff, Nat.reduceSub, Int.reduceToNat, Int.reduceLE, Int.reduceLT, Int.reduceEq, Int.reduceNe, Int.reduceAdd, Int.reduceSub, Int.reduceMul, Int.reduceNeg, UInt8.reduceToNat, decide_true, decide_false, decide_not, Int.cast_ofNat_Int, Int.natCast_add, Int.add_sub_cancel, Int.sub_add_cancel, Int.toNat_natCast, eq_self, not_true_eq_false, not_false_eq_true, h6, h7, hM1]
        rw [if_neg (by rintro (h | h | h); rw [hc] at h; cases h; omega; omega), if_pos (by omega)] at hq
        exact endAll ⟨rfl, F1, by rw [hq]; exact lexPut (s' := { s with held := s.held ++ b, state := 5 }) hM1' hH1 hT1 hF1 rfl rfl, .st hw (.inl ((hF k).2 (.inl rfl))) hO1⟩
    · simp (dsimp := false) (implicitDefEqProofs := false) (maxSteps := 1000000) (disch := omega) only [go_sem, Nat.reduceAdd, Nat.reduceMul, Nat.reduceEqDiff, Nat.reduceBEq, cond_true, cond_false, Nat.reduceLT, Nat.reduceLeDiff, Nat.reduceSub, Int.reduceToNat, Int.reduceLE, Int.reduceLT, Int.reduceEq, Int.reduceNe, Int.reduceAdd, Int.reduceSub, Int.reduceMul, Int.reduceNeg, UInt8.reduceToNat, decide_true, decide_false, decide_not, Int.cast_ofNat_Int, Int.natCast_add, Int.add_sub_cancel, Int.sub_add_cancel, Int.toNat_natCast, eq_self, not_true_eq_false, not_false_eq_true, h6, hM1]
      refine Br.of (fun h8 => ?_) (fun h8 => ?_)
      · simp (dsimp := false) (implicitDefEqProofs := false) (maxSteps := 1000000) (disch := omega) only [go_sem, Nat.reduceAdd, Nat.reduceMul, Nat.reduceEqDiff, Nat.reduceBEq, cond_true, cond_false, Nat.reduceLT, Nat.reduceLeDiff, Nat.reduceSub, Int.reduceToNat, Int.reduceLE, Int.reduceLT, Int.reduceEq, Int.reduceNe, Int.reduceAdd, Int.reduceSub, Int.reduceMul, Int.reduceNeg, UInt8.reduceToNat, decide_true, decide_false, decide_not, Int.cast_ofNat_Int, Int.natCast_add, Int.add_sub_cancel, Int.sub_add_cancel, Int.toNat_natCast, eq_self, not_true_eq_false, not_false_eq_true, h8]
        refine Br.of (fun h7 => ?_) (fun h7 => ?_)
        · simp (dsimp := false) (implicitDefEqProofs := false) (maxSteps := 1000000) (disch := omega) only [go_sem, Nat.reduceAdd, Nat.reduceMul, Nat.reduceEqDiff, Nat.reduceBEq, cond_true, cond_false, Nat.reduceLT, Nat.reduceLeDiff, Nat.reduceSub, Int.reduceToNat, Int.reduceLE, Int.reduceLT, Int.reduceEq, Int.reduceNe, Int.reduceAdd, Int.reduceSub, Int.reduceMul, Int.reduceNeg, UInt8.reduceToNat, decide_true, decide_false, decide_not, Int.cast_ofNat_Int, Int.natCast_add, Int.add_sub_cancel, Int.sub_add_cancel, Int.toNat_natCast, eq_self, not_true_eq_false, not_false_eq_true, h6, h7, h8, hM1]
          refine CF.by ((tell_walk k 5 _ F1 G M1 hL1' hhl ht (by omega)).callF func27 rfl rfl) ?_
          intro v M' h
          obtain ⟨rfl, _⟩ := id h
          simp (dsimp := false) (implicitDefEqProofs := false) (maxSteps := 1000000) (disch := omega) only [go_sem, Nat.reduceAdd, Nat.reduceMul, Nat.reduceEqDiff, Nat.reduceBEq, cond_true, cond_false, Nat.reduceLT, Nat.reduceLeDiff, Nat.reduceSub, Int.reduceToNat, Int.reduceLE, Int.reduceLT, Int.reduceEq, Int.reduceNe, Int.reduceAdd, Int.reduceSub, Int.reduceMul, Int.reduceNeg, UInt8.reduceToNat, decide_true, decide_false, decide_not, Int.cast_ofNat_Int, Int.natCast_add, Int.add_sub_cancel, Int.sub_add_cancel, Int.toNat_natCast, eq_self, not_true_eq_false, not_false_eq_true]
          exact endAll (fin _ _ _ (by rw [hq, if_neg (by rintro (h | h | h); rw [hc] at h; cases h; omega; omega), if_neg (by omega), if_pos (by omega)]) h)
        · simp (dsimp := false) (implicitDefEqProofs := false) (maxSteps := 1000000) (disch := omega) only [go_sem, Nat.reduceAdd, Nat.reduceMul, Nat.reduceEqDiff, Nat.reduceBEq, cond_true, cond_false, Nat.reduceLT, Nat.reduceLeDiff, Nat.reduceSub, Int.reduceToNat, Int.reduceLE, Int.reduceLT, Int.reduceEq, Int.reduceNe, Int.reduceAdd, Int.reduceSub, Int.reduceMul, Int.reduceNeg, UInt8.reduceToNat, decide_true, decide_false, decide_not, Int.cast_ofNat_Int, Int.natCast_add, Int.add_sub_cancel, Int.sub_add_cancel, Int.toNat_natCast, eq_self, not_true_eq_false, not_false_eq_true, h6, h7, h8, hM1]
          refine CF.by ((fail_lex k 102 s.here _ F1 G M1 hL1').callF func28 rfl rfl) ?_
          intro v M' h
          obtain ⟨rfl, _⟩ := id h
          simp (dsimp := false) (implicitDefEqProofs := false) (maxSteps := 1000000) (disch := omega) only [go_sem, Nat.reduceAdd, Nat.reduceMul, Nat.reduceEqDiff, Nat.reduceBEq, cond_true, cond_false, Nat.reduceLT, Nat.reduceLeDiff, Nat.reduceSub, Int.reduceToNat, Int.reduceLE, Int.reduceLT, Int.reduceEq, Int.reduceNe, Int.reduceAdd, Int.reduceSub, Int.reduceMul, Int.reduceNeg, UInt8.reduceToNat, decide_true, decide_false, decide_not, Int.cast_ofNat_Int, Int.natCast_add, Int.add_sub_cancel, Int.sub_add_cancel, Int.toNat_natCast, eq_self, not_true_eq_false, not_false_eq_true]
          exact endAll (fin _ _ _ (by rw [hq, if_pos (.inr (.inr (by omega)))]) h)
      · simp (dsimp := false) (implicitDefEqProofs := false) (maxSteps := 1000000) (disch := omega) only [go_sem, Nat.reduceAdd, Nat.reduceMul, Nat.reduceEqDiff, Nat.reduceBEq, cond_true, cond_false, Nat.reduceLT, Nat.reduceLeDiff, Nat.reduceSub, Int.reduceToNat, Int.reduceLE, Int.reduceLT, Int.reduceEq, Int.reduceNe, Int.reduceAdd, Int.reduceSub, Int.reduceMul, Int.reduceNeg, UInt8.reduceToNat, decide_true, decide_false, decide_not, Int.cast_ofNat_Int, Int.natCast_add, Int.add_sub_cancel, Int.sub_add_cancel, Int.toNat_natCast, eq_self, not_true_eq_false, not_false_eq_true, h6, h8, hM1]
        rw [if_neg (by rintro (h | h | h); rw [hc] at h; cases h; omega; omega), if_neg (by omega), if_neg (by omega)] at hq
        refine Br.of (fun h9 => ?_) (fun h9 => ?_)
        · simp (dsimp := false) (implicitDefEqProofs := false) (maxSteps := 1000000) (disch := omega) only [go_sem, Nat.reduceAdd, Nat.reduceMul, Nat.reduceEqDiff, Nat.reduceBEq, cond_true, cond_false, Nat.reduceLT, Nat.reduceLeDiff, Nat.reduceSub, Int.reduceToNat, Int.reduceLE, Int.reduceLT, Int.reduceEq, Int.reduceNe, Int.reduceAdd, Int.reduceSub, Int.reduceMul, Int.reduceNeg, UInt8.reduceToNat, decide_true, decide_false, decide_not, Int.cast_ofNat_Int, Int.natCast_add, Int.add_sub_cancel, Int.sub_add_cancel, Int.toNat_natCast, eq_self, not_true_eq_false, not_false_eq_true]
          refine CF.by ((tell_walk k 4 _ F1 G M1 hL1' hhl ht (by omega)).callF func27 rfl rfl) ?_
          intro v M' h
          obtain ⟨rfl, _⟩ := id h
          simp (dsimp := false) (implicitDefEqProofs := false) (maxSteps := 1000000) (disch := omega) only [go_sem, Nat.reduceAdd, Nat.reduceMul, Nat.reduceEqDiff, Nat.reduceBEq, cond_true, cond_false, Nat.reduceLT, Nat.reduceLeDiff, Nat.reduceSub, Int.reduceToNat, Int.reduceLE, Int.reduceLT, Int.reduceEq, Int.reduceNe, Int.reduceAdd, Int.reduceSub, Int.reduceMul, Int.reduceNeg, UInt8.reduceToNat, decide_true, decide_false, decide_not, Int.cast_ofNat_Int, Int.natCast_add, Int.add_sub_cancel, Int.sub_add_cancel, Int.toNat_natCast, eq_self, not_true_eq_false, not_false_eq_true]
          exact endAll (fin _ _ _ (by rw [hq, if_pos (by omega)]) h)
        · simp (dsimp := false) (implicitDefEqProofs := false) (maxSteps := 1000000) (disch := omega) only [go_sem, Nat.reduceAdd, Nat.reduceMul, Nat.reduceEqDiff, Nat.reduceBEq, cond_true, cond_false, Nat.reduceLT, Nat.reduceLeDiff, Nat.reduceSub, Int.reduceToNat, Int.reduceLE, Int.reduceLT, Int.reduceEq, Int.reduceNe, Int.reduceAdd, Int.reduceSub, Int.reduceMul, Int.reduceNeg, UInt8.reduceToNat, decide_true, decide_false, decide_not, Int.cast_ofNat_Int, Int.natCast_add, Int.add_sub_cancel, Int.sub_add_cancel, Int.toNat_natCast, eq_self, not_true_eq_false, not_false_eq_true]
          exact endAll ⟨rfl, F1, by rw [hq, if_neg (by omega)]; exact hL1', hO1⟩
end Go.Proofs.Tryd
