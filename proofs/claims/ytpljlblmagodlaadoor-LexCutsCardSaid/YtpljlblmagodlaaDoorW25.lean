/-
  Walks of the seat of LexCuts, part 25: rows of tokens compared; how large rows of texts are.
-/
import Derived.Test.YtpljlblmagodlaaDoorW24
set_option linter.unusedVariables false
set_option linter.unusedSimpArgs false
set_option linter.unusedSimpArgs false
set_option maxRecDepth 100000
set_option maxHeartbeats 4000000
namespace Go.Proofs.Tryd
open Go Go.AL
def tk0 : Tk := ⟨0, [], P0, 0⟩
theorem tkCells_at : ∀ (l : List Tk) (i : Nat), i < l.length → ((tkCells l).drop (i * 6)).take 6 = (l.getD i tk0).cells
  | [], i, h => by simp at h
  | t :: l, 0, h => by simp [tkCells, Tk.cells]
  | t :: l, i + 1, h => by
    have := tkCells_at l i (by simpa using h)
    rw [show (i + 1) * 6 = 6 + i * 6 by omega, ← List.drop_drop]
    simpa [tkCells, Tk.cells] using this
theorem beq_bs (a b : List UInt8) : (bs a == bs b) = decide (a = b) := by
  show ((bs a).data == (bs b).data) = _
  by_cases h : a = b
  · subst h; simp
  · rw [decide_eq_false h]
    simp [bs, h]
theorem tk_iff (a b : Tk) : (a.kind = b.kind ∧ a.text = b.text ∧ a.pl.at' = b.pl.at' ∧ a.pl.ln = b.pl.ln ∧ a.pl.col = b.pl.col ∧ a.feeds = b.feeds) ↔ a = b := by
  obtain ⟨k, t, ⟨p, q, r⟩, f⟩ := a
  obtain ⟨k', t', ⟨p', q', r'⟩, f'⟩ := b
  constructor
  · rintro ⟨h1, h2, h3, h4, h5, h6⟩
    simp only at h1 h2 h3 h4 h5 h6
    subst h1; subst h2; subst h3; subst h4; subst h5; subst h6; rfl
  · intro e; cases e; exact ⟨rfl, rfl, rfl, rfl, rfl, rfl⟩
instance (a b : Tk) : Decidable (a = b) := decidable_of_iff _ (tk_iff a b)
theorem int_beq (a b : Nat) : ((a : Int) == (b : Int)) = decide (a = b) := by
  by_cases h : a = b
  · subst h; simp
  · rw [decide_eq_false h, beq_eq_false_iff_ne]; omega
theorem tk_eq (a b : Tk) : eqL [2, 3, 2, 2, 2, 2] a.cells b.cells = some (decide (a = b)) := by
  have h : decide (a = b) = (decide (a.kind = b.kind) && (decide (a.text = b.text) && (decide (a.pl.at' = b.pl.at') && (decide (a.pl.ln = b.pl.ln) && (decide (a.pl.col = b.pl.col) && (decide (a.feeds = b.feeds) && true)))))) := by
    rw [Bool.and_true, ← Bool.decide_and, ← Bool.decide_and, ← Bool.decide_and, ← Bool.decide_and, ← Bool.decide_and]
    exact decide_eq_decide.2 (tk_iff a b).symm
  rw [h]
  simp only [Tk.cells, eqL, eqK, beq_bs, int_beq, if_true]
theorem same_walk (xs ys : List Tk) (o1 o2 : Option Nat) (hx : xs.length < 1000000000000000) (hy : ys.length < 1000000000000000) (G : Nat) (M : Mem) (h1 : Row M o1 (tkCells xs) 39) (h2 : Row M o2 (tkCells ys) 39) :
    ACalls prog G 11 [sl o1 xs.length, sl o2 ys.length] M (Says (.bool (decide (xs = ys))) M) := by
  have l1 : aLen prog 27 (sl o1 xs.length) = some (.int .i64 xs.length) := sl_len (by exact q_u27) (by rintro rfl; have := congrArg List.length h1.nil; rw [tkCells_length, List.length_nil] at this; omega)
  have l2 : aLen prog 27 (sl o2 ys.length) = some (.int .i64 ys.length) := sl_len (by exact q_u27) (by rintro rfl; have := congrArg List.length h2.nil; rw [tkCells_length, List.length_nil] at this; omega)
  refine ACalls.walk (N := 26) (rs := [.tmp 4]) func11 rfl rfl (by kernel_rfl) (by kernel_rfl) fun hw => ?_
  simp (dsimp := false) (implicitDefEqProofs := false) (maxSteps := 1000000) (disch := omega) only [go_sem, Nat.reduceAdd, Nat.reduceMul, Nat.reduceEqDiff, Nat.reduceBEq, cond_true, cond_false, Nat.reduceLT, Nat.reduceLeDiff, Nat.reduceSub, Int.reduceToNat, Int.reduceLE, Int.reduceLT, Int.reduceEq, Int.reduceNe, Int.reduceAdd, Int.reduceSub, Int.reduceMul, Int.reduceNeg, UInt8.reduceToNat, decide_true, decide_false, decide_not, Int.cast_ofNat_Int, Int.natCast_add, Int.add_sub_cancel, Int.sub_add_cancel, Int.toNat_natCast, eq_self, not_true_eq_false, not_false_eq_true, l1, l2]
  refine Br.of (fun g1 => ?_) (fun g1 => ?_)
  rotate_left
  · simp (dsimp := false) (implicitDefEqProofs := false) (maxSteps := 1000000) (disch := omega) only [go_sem, Nat.reduceAdd, Nat.reduceMul, Nat.reduceEqDiff, Nat.reduceBEq, cond_true, cond_false, Nat.reduceLT, Nat.reduceLeDiff, Nat.reduceSub, Int.reduceToNat, Int.reduceLE, Int.reduceLT, Int.reduceEq, Int.reduceNe, Int.reduceAdd, Int.reduceSub, Int.reduceMul, Int.reduceNeg, UInt8.reduceToNat, decide_true, decide_false, decide_not, Int.cast_ofNat_Int, Int.natCast_add, Int.add_sub_cancel, Int.sub_add_cancel, Int.toNat_natCast, eq_self, not_true_eq_false, not_false_eq_true]
    exact endSays rfl (Keep.refl _) (by rw [decide_eq_false]; rintro rfl; exact g1 rfl)
  have hlen : xs.length = ys.length := by omega
  simp (dsimp := false) (implicitDefEqProofs := false) (maxSteps := 1000000) (disch := omega) only [go_sem, Nat.reduceAdd, Nat.reduceMul, Nat.reduceEqDiff, Nat.reduceBEq, cond_true, cond_false, Nat.reduceLT, Nat.reduceLeDiff, Nat.reduceSub, Int.reduceToNat, Int.reduceLE, Int.reduceLT, Int.reduceEq, Int.reduceNe, Int.reduceAdd, Int.reduceSub, Int.reduceMul, Int.reduceNeg, UInt8.reduceToNat, decide_true, decide_false, decide_not, Int.cast_ofNat_Int, Int.natCast_add, Int.add_sub_cancel, Int.sub_add_cancel, Int.toNat_natCast, eq_self, not_true_eq_false, not_false_eq_true]
  refine LP.by (fun a : Nat => [(0, sl o1 xs.length), (1, sl o2 ys.length), (4, .bool false), (5, .int .i64 a)]) (fun a M' => a ≤ xs.length ∧ decide (xs = ys) = decide (xs.drop a = ys.drop a) ∧ M' = M) (fun a => xs.length - a) 0 (by kernel_rfl) ⟨by omega, rfl, rfl⟩ (by simp (dsimp := false) (implicitDefEqProofs := false) (maxSteps := 1000000) (disch := omega) only [go_sem, Nat.reduceAdd, Nat.reduceMul, Nat.reduceEqDiff, Nat.reduceBEq, cond_true, cond_false, Nat.reduceLT, Nat.reduceLeDiff, Nat.reduceSub, Int.reduceToNat, Int.reduceLE, Int.reduceLT, Int.reduceEq, Int.reduceNe, Int.reduceAdd, Int.reduceSub, Int.reduceMul, Int.reduceNeg, UInt8.reduceToNat, decide_true, decide_false, decide_not, Int.cast_ofNat_Int, Int.natCast_add, Int.add_sub_cancel, Int.sub_add_cancel, Int.toNat_natCast, eq_self, not_true_eq_false, not_false_eq_true]) ?_
  rintro a M' ⟨g2, g3, rfl⟩ ih
  simp (dsimp := false) (implicitDefEqProofs := false) (maxSteps := 1000000) (disch := omega) only [go_sem, Nat.reduceAdd, Nat.reduceMul, Nat.reduceEqDiff, Nat.reduceBEq, cond_true, cond_false, Nat.reduceLT, Nat.reduceLeDiff, Nat.reduceSub, Int.reduceToNat, Int.reduceLE, Int.reduceLT, Int.reduceEq, Int.reduceNe, Int.reduceAdd, Int.reduceSub, Int.reduceMul, Int.reduceNeg, UInt8.reduceToNat, decide_true, decide_false, decide_not, Int.cast_ofNat_Int, Int.natCast_add, Int.add_sub_cancel, Int.sub_add_cancel, Int.toNat_natCast, eq_self, not_true_eq_false, not_false_eq_true, l1]
  refine Br.of (fun g4 => ?_) (fun g4 => ?_)
  rotate_left
  · simp (dsimp := false) (implicitDefEqProofs := false) (maxSteps := 1000000) (disch := omega) only [go_sem, Nat.reduceAdd, Nat.reduceMul, Nat.reduceEqDiff, Nat.reduceBEq, cond_true, cond_false, Nat.reduceLT, Nat.reduceLeDiff, Nat.reduceSub, Int.reduceToNat, Int.reduceLE, Int.reduceLT, Int.reduceEq, Int.reduceNe, Int.reduceAdd, Int.reduceSub, Int.reduceMul, Int.reduceNeg, UInt8.reduceToNat, decide_true, decide_false, decide_not, Int.cast_ofNat_Int, Int.natCast_add, Int.add_sub_cancel, Int.sub_add_cancel, Int.toNat_natCast, eq_self, not_true_eq_false, not_false_eq_true]
    exact endSays rfl (Keep.refl _) (by rw [g3, List.drop_eq_nil_of_le (by omega), List.drop_eq_nil_of_le (by omega)]; rfl)
  have g5 : a < xs.length := by omega
  cases o1 with
  | none => have := congrArg List.length h1.nil; rw [tkCells_length] at this; simp at this; omega
  | some k1 =>
    cases o2 with
    | none => have := congrArg List.length h2.nil; rw [tkCells_length] at this; simp at this; omega
    | some k2 =>
      have m1 : M'.get k1 = some (.cells (tkCells xs) 39 0 false) := h1
      have m2 : M'.get k2 = some (.cells (tkCells ys) 39 0 false) := h2
      have e1 := tkCells_at xs a g5
      have e2 := tkCells_at ys a (by omega)
      have hd : decide (xs = ys) = (decide (xs.getD a tk0 = ys.getD a tk0) && decide (xs.drop (a + 1) = ys.drop (a + 1))) := by
        rw [g3, List.drop_eq_getElem_cons g5, List.drop_eq_getElem_cons (show a < ys.length by omega), ← Bool.decide_and]
        apply decide_eq_decide.2
        rw [List.cons.injEq]
        simp [g5, show a < ys.length by omega]
      simp (dsimp := false) (implicitDefEqProofs := false) (maxSteps := 1000000) (disch := omega) only [go_sem, Nat.reduceAdd, Nat.reduceMul, Nat.reduceEqDiff, Nat.reduceBEq, cond_true, cond_false, Nat.reduceLT, Nat.reduceLeDiff, Nat.reduceSub, Int.reduceToNat, Int.reduceLE, Int.reduceLT, Int.reduceEq, Int.reduceNe, Int.reduceAdd, Int.reduceSub, Int.reduceMul, Int.reduceNeg, UInt8.reduceToNat, decide_true, decide_false, decide_not, Int.cast_ofNat_Int, Int.natCast_add, Int.add_sub_cancel, Int.sub_add_cancel, Int.toNat_natCast, eq_self, not_true_eq_false, not_false_eq_true, sl_some]
      refine DR.way (pf := PF.none) [0,1,2,3,4,5,6,7,8] checked.mixed PF.none_ok (by kernel_rfl) ?_
      simp (dsimp := false) (implicitDefEqProofs := false) (maxSteps := 1000000) (disch := omega) only [go_sem, Nat.reduceAdd, Nat.reduceMul, Nat.reduceEqDiff, Nat.reduceBEq, cond_true, cond_false, Nat.reduceLT, Nat.reduceLeDiff, Nat.reduceSub, Int.reduceToNat, Int.reduceLE, Int.reduceLT, Int.reduceEq, Int.reduceNe, Int.reduceAdd, Int.reduceSub, Int.reduceMul, Int.reduceNeg, UInt8.reduceToNat, decide_true, decide_false, decide_not, Int.cast_ofNat_Int, Int.natCast_add, Int.add_sub_cancel, Int.sub_add_cancel, Int.toNat_natCast, eq_self, not_true_eq_false, not_false_eq_true, m1, m2, tkCells_length, e1, e2, tk_eq]
      refine ⟨by omega, by omega, by omega, by omega, Br.of (fun g6 => ?_) (fun g6 => ?_)⟩
      · simp (dsimp := false) (implicitDefEqProofs := false) (maxSteps := 1000000) (disch := omega) only [go_sem, Nat.reduceAdd, Nat.reduceMul, Nat.reduceEqDiff, Nat.reduceBEq, cond_true, cond_false, Nat.reduceLT, Nat.reduceLeDiff, Nat.reduceSub, Int.reduceToNat, Int.reduceLE, Int.reduceLT, Int.reduceEq, Int.reduceNe, Int.reduceAdd, Int.reduceSub, Int.reduceMul, Int.reduceNeg, UInt8.reduceToNat, decide_true, decide_false, decide_not, Int.cast_ofNat_Int, Int.natCast_add, Int.add_sub_cancel, Int.sub_add_cancel, Int.toNat_natCast, eq_self, not_true_eq_false, not_false_eq_true]
        exact ih (a + 1) _ _ (by omega) ⟨by omega, by rw [hd, decide_eq_true g6, Bool.true_and], rfl⟩ (by simp (dsimp := false) (implicitDefEqProofs := false) (maxSteps := 1000000) (disch := omega) only [go_sem, Nat.reduceAdd, Nat.reduceMul, Nat.reduceEqDiff, Nat.reduceBEq, cond_true, cond_false, Nat.reduceLT, Nat.reduceLeDiff, Nat.reduceSub, Int.reduceToNat, Int.reduceLE, Int.reduceLT, Int.reduceEq, Int.reduceNe, Int.reduceAdd, Int.reduceSub, Int.reduceMul, Int.reduceNeg, UInt8.reduceToNat, decide_true, decide_false, decide_not, Int.cast_ofNat_Int, Int.natCast_add, Int.add_sub_cancel, Int.sub_add_cancel, Int.toNat_natCast, eq_self, not_true_eq_false, not_false_eq_true, sl_some])
      · simp (dsimp := false) (implicitDefEqProofs := false) (maxSteps := 1000000) (disch := omega) only [go_sem, Nat.reduceAdd, Nat.reduceMul, Nat.reduceEqDiff, Nat.reduceBEq, cond_true, cond_false, Nat.reduceLT, Nat.reduceLeDiff, Nat.reduceSub, Int.reduceToNat, Int.reduceLE, Int.reduceLT, Int.reduceEq, Int.reduceNe, Int.reduceAdd, Int.reduceSub, Int.reduceMul, Int.reduceNeg, UInt8.reduceToNat, decide_true, decide_false, decide_not, Int.cast_ofNat_Int, Int.natCast_add, Int.add_sub_cancel, Int.sub_add_cancel, Int.toNat_natCast, eq_self, not_true_eq_false, not_false_eq_true]
        exact endSays rfl (Keep.refl _) (by rw [hd, decide_eq_false g6, Bool.false_and])
/-- A row of texts that came in: nothing is written there. -/
def StrArg (P : Program) (M : Mem) (t : TypeId) (v : Value) (l : List (List UInt8)) : Prop :=
  aLen P t v = some (.int .i64 l.length) ∧ (0 < l.length → ∃ k e c, v = .slice (some ⟨k, 0, none⟩) l.length c ∧ M.get k = some (.cells (l.map fun s => .string (bs s)) e 0 true))
theorem StrArg.keep {P : Program} {M M' : Mem} {t : TypeId} {v : Value} {l : List (List UInt8)} (h : StrArg P M t v l) (hk : ∀ k cs e fz, M.get k = some (.cells cs e fz true) → M'.get k = some (.cells cs e fz true)) : StrArg P M' t v l :=
  ⟨h.1, fun hl => let ⟨k, e, c, h1, h2⟩ := h.2 hl; ⟨k, e, c, h1, hk _ _ _ _ h2⟩⟩
/-- How large a row is; it ends above a bound. -/
def sizeL : List (List UInt8) → Nat → Nat
  | [], n => n
  | x :: r, n => if n ≤ 67108864 then sizeL r (n + 16 + x.length) else n
theorem size_walk (l : List (List UInt8)) (va : Value) (G : Nat) (M : Mem) (hA : StrArg prog M 22 va l) (hb : ∀ s ∈ l, s.length < 281474976710656) (hl : l.length < 281474976710656) :
    ACalls prog G 5 [va] M (Says (.int .i64 (sizeL l 0)) M) := by
  obtain ⟨l1, hk⟩ := hA
  refine ACalls.walk (N := 24) (rs := [.tmp 2]) func5 rfl rfl (by kernel_rfl) (by kernel_rfl) fun hw => ?_
  simp (dsimp := false) (implicitDefEqProofs := false) (maxSteps := 1000000) (disch := omega) only [go_sem, Nat.reduceAdd, Nat.reduceMul, Nat.reduceEqDiff, Nat.reduceBEq, cond_true, cond_false, Nat.reduceLT, Nat.reduceLeDiff, Nat.reduceSub, Int.reduceToNat, Int.reduceLE, Int.reduceLT, Int.reduceEq, Int.reduceNe, Int.reduceAdd, Int.reduceSub, Int.reduceMul, Int.reduceNeg, UInt8.reduceToNat, decide_true, decide_false, decide_not, Int.cast_ofNat_Int, Int.natCast_add, Int.add_sub_cancel, Int.sub_add_cancel, Int.toNat_natCast, eq_self, not_true_eq_false, not_false_eq_true]
  refine LP.by (fun a : Nat × Nat => [(0, va), (3, .int .i64 a.2), (4, .int .i64 a.1)]) (fun a M' => a.1 ≤ l.length ∧ sizeL l 0 = sizeL (l.drop a.1) a.2 ∧ a.2 ≤ 67108864 + 16 + 281474976710656 ∧ M' = M) (fun a => l.length - a.1) (0, 0) (by kernel_rfl) ⟨by simp, rfl, by simp, rfl⟩ (by simp (dsimp := false) (implicitDefEqProofs := false) (maxSteps := 1000000) (disch := omega) only [go_sem, Nat.reduceAdd, Nat.reduceMul, Nat.reduceEqDiff, Nat.reduceBEq, cond_true, cond_false, Nat.reduceLT, Nat.reduceLeDiff, Nat.reduceSub, Int.reduceToNat, Int.reduceLE, Int.reduceLT, Int.reduceEq, Int.reduceNe, Int.reduceAdd, Int.reduceSub, Int.reduceMul, Int.reduceNeg, UInt8.reduceToNat, decide_true, decide_false, decide_not, Int.cast_ofNat_Int, Int.natCast_add, Int.add_sub_cancel, Int.sub_add_cancel, Int.toNat_natCast, eq_self, not_true_eq_false, not_false_eq_true]) ?_
  rintro ⟨a, n⟩ M' ⟨g2, g3, gn, rfl⟩ ih
  simp only at g2 g3 gn
  simp (dsimp := false) (implicitDefEqProofs := false) (maxSteps := 1000000) (disch := omega) only [go_sem, Nat.reduceAdd, Nat.reduceMul, Nat.reduceEqDiff, Nat.reduceBEq, cond_true, cond_false, Nat.reduceLT, Nat.reduceLeDiff, Nat.reduceSub, Int.reduceToNat, Int.reduceLE, Int.reduceLT, Int.reduceEq, Int.reduceNe, Int.reduceAdd, Int.reduceSub, Int.reduceMul, Int.reduceNeg, UInt8.reduceToNat, decide_true, decide_false, decide_not, Int.cast_ofNat_Int, Int.natCast_add, Int.add_sub_cancel, Int.sub_add_cancel, Int.toNat_natCast, eq_self, not_true_eq_false, not_false_eq_true, l1]
  refine Br.of (fun g4 => ?_) (fun g4 => ?_)
  rotate_left
  · simp (dsimp := false) (implicitDefEqProofs := false) (maxSteps := 1000000) (disch := omega) only [go_sem, Nat.reduceAdd, Nat.reduceMul, Nat.reduceEqDiff, Nat.reduceBEq, cond_true, cond_false, Nat.reduceLT, Nat.reduceLeDiff, Nat.reduceSub, Int.reduceToNat, Int.reduceLE, Int.reduceLT, Int.reduceEq, Int.reduceNe, Int.reduceAdd, Int.reduceSub, Int.reduceMul, Int.reduceNeg, UInt8.reduceToNat, decide_true, decide_false, decide_not, Int.cast_ofNat_Int, Int.natCast_add, Int.add_sub_cancel, Int.sub_add_cancel, Int.toNat_natCast, eq_self, not_true_eq_false, not_false_eq_true, g4]
    exact endSays rfl (Keep.refl _) (by rw [g3, List.drop_eq_nil_of_le (by omega)]; rfl)
  obtain ⟨k, e, c, rfl, hM⟩ := hk (by omega)
  rw [List.drop_eq_getElem_cons g4, sizeL] at g3
  simp (dsimp := false) (implicitDefEqProofs := false) (maxSteps := 1000000) (disch := omega) only [go_sem, Nat.reduceAdd, Nat.reduceMul, Nat.reduceEqDiff, Nat.reduceBEq, cond_true, cond_false, Nat.reduceLT, Nat.reduceLeDiff, Nat.reduceSub, Int.reduceToNat, Int.reduceLE, Int.reduceLT, Int.reduceEq, Int.reduceNe, Int.reduceAdd, Int.reduceSub, Int.reduceMul, Int.reduceNeg, UInt8.reduceToNat, decide_true, decide_false, decide_not, Int.cast_ofNat_Int, Int.natCast_add, Int.add_sub_cancel, Int.sub_add_cancel, Int.toNat_natCast, eq_self, not_true_eq_false, not_false_eq_true, g4]
  refine Br.of (fun g5 => ?_) (fun g5 => ?_)
  · rw [if_pos (by omega)] at g3
    have hx := row_get l a g4
    have hgd : l.getD a [] = l[a] := by simp [g4]
    have hbx := hb _ (List.getElem_mem g4)
    simp (dsimp := false) (implicitDefEqProofs := false) (maxSteps := 1000000) (disch := omega) only [go_sem, Nat.reduceAdd, Nat.reduceMul, Nat.reduceEqDiff, Nat.reduceBEq, cond_true, cond_false, Nat.reduceLT, Nat.reduceLeDiff, Nat.reduceSub, Int.reduceToNat, Int.reduceLE, Int.reduceLT, Int.reduceEq, Int.reduceNe, Int.reduceAdd, Int.reduceSub, Int.reduceMul, Int.reduceNeg, UInt8.reduceToNat, decide_true, decide_false, decide_not, Int.cast_ofNat_Int, Int.natCast_add, Int.add_sub_cancel, Int.sub_add_cancel, Int.toNat_natCast, eq_self, not_true_eq_false, not_false_eq_true, g4, g5, hM, hx, Nat.mul_one, hgd]
    refine ⟨by omega, ih (a + 1, n + 16 + l[a].length) _ _ (by simp only; omega) ⟨by simp only; omega, g3, by simp only; omega, rfl⟩ (by simp (dsimp := false) (implicitDefEqProofs := false) (maxSteps := 1000000) (disch := omega) only [go_sem, Nat.reduceAdd, Nat.reduceMul, Nat.reduceEqDiff, Nat.reduceBEq, cond_true, cond_false, Nat.reduceLT, Nat.reduceLeDiff, Nat.reduceSub, Int.reduceToNat, Int.reduceLE, Int.reduceLT, Int.reduceEq, Int.reduceNe, Int.reduceAdd, Int.reduceSub, Int.reduceMul, Int.reduceNeg, UInt8.reduceToNat, decide_true, decide_false, decide_not, Int.cast_ofNat_Int, Int.natCast_add, Int.add_sub_cancel, Int.sub_add_cancel, Int.toNat_natCast, eq_self, not_true_eq_false, not_false_eq_true])⟩
  · rw [if_neg (by omega)] at g3
    simp (dsimp := false) (implicitDefEqProofs := false) (maxSteps := 1000000) (disch := omega) only [go_sem, Nat.reduceAdd, Nat.reduceMul, Nat.reduceEqDiff, Nat.reduceBEq, cond_true, cond_false, Nat.reduceLT, Nat.reduceLeDiff, Nat.reduceSub, Int.reduceToNat, Int.reduceLE, Int.reduceLT, Int.reduceEq, Int.reduceNe, Int.reduceAdd, Int.reduceSub, Int.reduceMul, Int.reduceNeg, UInt8.reduceToNat, decide_true, decide_false, decide_not, Int.cast_ofNat_Int, Int.natCast_add, Int.add_sub_cancel, Int.sub_add_cancel, Int.toNat_natCast, eq_self, not_true_eq_false, not_false_eq_true, g4, g5]
    exact endSays rfl (Keep.refl _) (by rw [g3])
end Go.Proofs.Tryd
