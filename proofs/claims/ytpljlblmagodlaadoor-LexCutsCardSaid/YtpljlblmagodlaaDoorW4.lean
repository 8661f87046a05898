/-
  Walks of the seat of LexCuts, part 4: letters and parts of names, by the tables.
-/
import Derived.Test.YtpljlblmagodlaaDoorW3
set_option linter.unusedVariables false
set_option linter.unusedSimpArgs false
set_option linter.unusedSimpArgs false
set_option maxRecDepth 100000
set_option maxHeartbeats 4000000
namespace Go.Proofs.Tryd
open Go Go.AL
def pairL : List (Int × Int) → List Value
  | [] => []
  | p :: r => .int .i64 p.1 :: .int .i64 p.2 :: pairL r
theorem pairL_length : ∀ t : List (Int × Int), (pairL t).length = 2 * t.length
  | [] => rfl
  | p :: r => by simp [pairL, pairL_length r]; omega
theorem pairL_at : ∀ (t : List (Int × Int)) (i : Nat), i < t.length → ((pairL t).drop (i * 2)).take 2 = [.int .i64 (t.getD i (0, 0)).1, .int .i64 (t.getD i (0, 0)).2]
  | [], i, h => by simp at h
  | p :: r, 0, h => by simp [pairL]
  | p :: r, i + 1, h => by
    have := pairL_at r i (by simpa using h)
    rw [show (i + 1) * 2 = i * 2 + 2 by omega]
    simpa [pairL] using this
def inTab (t : List (Int × Int)) (x : Int) : Bool := t.any fun p => decide (p.1 ≤ x ∧ x ≤ p.2)
def letterT : List (Int × Int) := [(65, 90), (97, 122), (192, 214), (216, 246), (248, 591), (913, 929), (931, 974), (1024, 1119), (1488, 1514), (1568, 1610), (2308, 2361), (12353, 12438), (12449, 12538), (19968, 40959), (44032, 55203), (66560, 66639), (131072, 196607)]
def otherT : List (Int × Int) := [(48, 57), (95, 95), (768, 879)]
/-- The tables lie where they do. -/
structure Glob (G : Nat) (M : Mem) : Prop where
  g : 4 < G ∧ 3 < G
  letters : ∃ e fz, M.get 3 = some (.cells (pairL letterT) e fz true)
  others : ∃ e fz, M.get 4 = some (.cells (pairL otherT) e fz true)
theorem Glob.keep {G : Nat} {M M' : Mem} (h : Glob G M) (hk : Keep M M') : Glob G M' := by
  obtain ⟨h1, ⟨e, fz, h2⟩, ⟨e', fz', h3⟩⟩ := h
  exact ⟨h1, ⟨e, fz, hk _ _ h2⟩, ⟨e', fz', hk _ _ h3⟩⟩
theorem pairT_len : (pairL letterT).length = 34 := rfl
theorem pairO_len : (pairL otherT).length = 6 := rfl
theorem pairT_at {a : Nat} (h : a < 17) : ((pairL letterT).drop (a * 2)).take 2 = [.int .i64 (letterT.getD a (0, 0)).1, .int .i64 (letterT.getD a (0, 0)).2] := pairL_at letterT a h
theorem pairO_at {a : Nat} (h : a < 3) : ((pairL otherT).drop (a * 2)).take 2 = [.int .i64 (otherT.getD a (0, 0)).1, .int .i64 (otherT.getD a (0, 0)).2] := pairL_at otherT a h
theorem inTab_step (t : List (Int × Int)) (x : Int) (a : Nat) (h : a < t.length) : inTab (t.drop a) x = (decide ((t.getD a (0, 0)).1 ≤ x ∧ x ≤ (t.getD a (0, 0)).2) || inTab (t.drop (a + 1)) x) := by
  have e : t.getD a (0, 0) = t[a] := by simp [h]
  rw [e]
  unfold inTab
  rw [List.drop_eq_getElem_cons h, List.any_cons]
theorem letter_walk (x : Int) (G : Nat) (M : Mem) (hG : Glob G M) : ACalls prog G 39 [.int .i64 x] M (Says (.bool (inTab letterT x)) M) := by
  obtain ⟨hg, ⟨e, fz, hM⟩, _⟩ := hG
  have hg3 : 3 < G := hg.2
  refine ACalls.walk (N := 20) (rs := [.tmp 2]) func39 rfl rfl (by kernel_rfl) (by kernel_rfl) fun hw => ?_
  simp (dsimp := false) (implicitDefEqProofs := false) (maxSteps := 1000000) (disch := omega) only [go_sem, Nat.reduceAdd, Nat.reduceMul, Nat.reduceEqDiff, Nat.reduceBEq, cond_true, cond_false, Nat.reduceLT, Nat.reduceLeDiff, Nat.reduceSub, Int.reduceToNat, Int.reduceLE, Int.reduceLT, Int.reduceEq, Int.reduceNe, Int.reduceAdd, Int.reduceSub, Int.reduceMul, Int.reduceNeg, UInt8.reduceToNat, decide_true, decide_false, decide_not, Int.cast_ofNat_Int, Int.natCast_add, Int.add_sub_cancel, Int.sub_add_cancel, Int.toNat_natCast, eq_self, not_true_eq_false, not_false_eq_true, hg3, hM, pairT_len]
  have e0 : (List.take 34 (pairL letterT)) = pairL letterT := rfl
  refine LP.by (fun a : Nat => [(0, .int .i64 x), (5, .agg (pairL letterT).toArray), (6, .int .i64 a)]) (fun a M' => a ≤ 17 ∧ inTab letterT x = inTab (letterT.drop a) x ∧ Grow M M') (fun a => 17 - a) 0 (by kernel_rfl) ⟨by omega, rfl, .refl M⟩ (by simp (dsimp := false) (implicitDefEqProofs := false) (maxSteps := 1000000) (disch := omega) only [go_sem, Nat.reduceAdd, Nat.reduceMul, Nat.reduceEqDiff, Nat.reduceBEq, cond_true, cond_false, Nat.reduceLT, Nat.reduceLeDiff, Nat.reduceSub, Int.reduceToNat, Int.reduceLE, Int.reduceLT, Int.reduceEq, Int.reduceNe, Int.reduceAdd, Int.reduceSub, Int.reduceMul, Int.reduceNeg, UInt8.reduceToNat, decide_true, decide_false, decide_not, Int.cast_ofNat_Int, Int.natCast_add, Int.add_sub_cancel, Int.sub_add_cancel, Int.toNat_natCast, eq_self, not_true_eq_false, not_false_eq_true, e0]) ?_
  rintro a M' ⟨h1, h2, h3⟩ ih
  simp (dsimp := false) (implicitDefEqProofs := false) (maxSteps := 1000000) (disch := omega) only [go_sem, Nat.reduceAdd, Nat.reduceMul, Nat.reduceEqDiff, Nat.reduceBEq, cond_true, cond_false, Nat.reduceLT, Nat.reduceLeDiff, Nat.reduceSub, Int.reduceToNat, Int.reduceLE, Int.reduceLT, Int.reduceEq, Int.reduceNe, Int.reduceAdd, Int.reduceSub, Int.reduceMul, Int.reduceNeg, UInt8.reduceToNat, decide_true, decide_false, decide_not, Int.cast_ofNat_Int, Int.natCast_add, Int.add_sub_cancel, Int.sub_add_cancel, Int.toNat_natCast, eq_self, not_true_eq_false, not_false_eq_true]
  refine Br.of (fun h => ?_) (fun h => ?_)
  · have hs := inTab_step letterT x a (by show a < 17; omega)
    rw [hs] at h2
    simp (dsimp := false) (implicitDefEqProofs := false) (maxSteps := 1000000) (disch := omega) only [go_sem, Nat.reduceAdd, Nat.reduceMul, Nat.reduceEqDiff, Nat.reduceBEq, cond_true, cond_false, Nat.reduceLT, Nat.reduceLeDiff, Nat.reduceSub, Int.reduceToNat, Int.reduceLE, Int.reduceLT, Int.reduceEq, Int.reduceNe, Int.reduceAdd, Int.reduceSub, Int.reduceMul, Int.reduceNeg, UInt8.reduceToNat, decide_true, decide_false, decide_not, Int.cast_ofNat_Int, Int.natCast_add, Int.add_sub_cancel, Int.sub_add_cancel, Int.toNat_natCast, eq_self, not_true_eq_false, not_false_eq_true, pairT_len, pairT_at]
    refine ⟨by omega, by omega, Br.of (fun h4 => ?_) (fun h4 => ?_)⟩
    · simp (dsimp := false) (implicitDefEqProofs := false) (maxSteps := 1000000) (disch := omega) only [go_sem, Nat.reduceAdd, Nat.reduceMul, Nat.reduceEqDiff, Nat.reduceBEq, cond_true, cond_false, Nat.reduceLT, Nat.reduceLeDiff, Nat.reduceSub, Int.reduceToNat, Int.reduceLE, Int.reduceLT, Int.reduceEq, Int.reduceNe, Int.reduceAdd, Int.reduceSub, Int.reduceMul, Int.reduceNeg, UInt8.reduceToNat, decide_true, decide_false, decide_not, Int.cast_ofNat_Int, Int.natCast_add, Int.add_sub_cancel, Int.sub_add_cancel, Int.toNat_natCast, eq_self, not_true_eq_false, not_false_eq_true, h4]
      refine Br.of (fun h5 => ?_) (fun h5 => ?_)
      · simp (dsimp := false) (implicitDefEqProofs := false) (maxSteps := 1000000) (disch := omega) only [go_sem, Nat.reduceAdd, Nat.reduceMul, Nat.reduceEqDiff, Nat.reduceBEq, cond_true, cond_false, Nat.reduceLT, Nat.reduceLeDiff, Nat.reduceSub, Int.reduceToNat, Int.reduceLE, Int.reduceLT, Int.reduceEq, Int.reduceNe, Int.reduceAdd, Int.reduceSub, Int.reduceMul, Int.reduceNeg, UInt8.reduceToNat, decide_true, decide_false, decide_not, Int.cast_ofNat_Int, Int.natCast_add, Int.add_sub_cancel, Int.sub_add_cancel, Int.toNat_natCast, eq_self, not_true_eq_false, not_false_eq_true]
        exact endGrow rfl (.alloc hw h3) (by rw [h2]; simp only [h4, h5, and_self, decide_true, Bool.true_or])
      · simp (dsimp := false) (implicitDefEqProofs := false) (maxSteps := 1000000) (disch := omega) only [go_sem, Nat.reduceAdd, Nat.reduceMul, Nat.reduceEqDiff, Nat.reduceBEq, cond_true, cond_false, Nat.reduceLT, Nat.reduceLeDiff, Nat.reduceSub, Int.reduceToNat, Int.reduceLE, Int.reduceLT, Int.reduceEq, Int.reduceNe, Int.reduceAdd, Int.reduceSub, Int.reduceMul, Int.reduceNeg, UInt8.reduceToNat, decide_true, decide_false, decide_not, Int.cast_ofNat_Int, Int.natCast_add, Int.add_sub_cancel, Int.sub_add_cancel, Int.toNat_natCast, eq_self, not_true_eq_false, not_false_eq_true]
        exact ih (a + 1) _ _ (by omega) ⟨by omega, by rw [h2]; simp only [h4, h5, and_false, decide_false, Bool.false_or], .alloc hw h3⟩ (by simp (dsimp := false) (implicitDefEqProofs := false) (maxSteps := 1000000) (disch := omega) only [go_sem, Nat.reduceAdd, Nat.reduceMul, Nat.reduceEqDiff, Nat.reduceBEq, cond_true, cond_false, Nat.reduceLT, Nat.reduceLeDiff, Nat.reduceSub, Int.reduceToNat, Int.reduceLE, Int.reduceLT, Int.reduceEq, Int.reduceNe, Int.reduceAdd, Int.reduceSub, Int.reduceMul, Int.reduceNeg, UInt8.reduceToNat, decide_true, decide_false, decide_not, Int.cast_ofNat_Int, Int.natCast_add, Int.add_sub_cancel, Int.sub_add_cancel, Int.toNat_natCast, eq_self, not_true_eq_false, not_false_eq_true])
    · simp (dsimp := false) (implicitDefEqProofs := false) (maxSteps := 1000000) (disch := omega) only [go_sem, Nat.reduceAdd, Nat.reduceMul, Nat.reduceEqDiff, Nat.reduceBEq, cond_true, cond_false, Nat.reduceLT, Nat.reduceLeDiff, Nat.reduceSub, Int.reduceToNat, Int.reduceLE, Int.reduceLT, Int.reduceEq, Int.reduceNe, Int.reduceAdd, Int.reduceSub, Int.reduceMul, Int.reduceNeg, UInt8.reduceToNat, decide_true, decide_false, decide_not, Int.cast_ofNat_Int, Int.natCast_add, Int.add_sub_cancel, Int.sub_add_cancel, Int.toNat_natCast, eq_self, not_true_eq_false, not_false_eq_true, h4]
      exact ih (a + 1) _ _ (by omega) ⟨by omega, by rw [h2]; simp only [h4, false_and, decide_false, Bool.false_or], .alloc hw h3⟩ (by simp (dsimp := false) (implicitDefEqProofs := false) (maxSteps := 1000000) (disch := omega) only [go_sem, Nat.reduceAdd, Nat.reduceMul, Nat.reduceEqDiff, Nat.reduceBEq, cond_true, cond_false, Nat.reduceLT, Nat.reduceLeDiff, Nat.reduceSub, Int.reduceToNat, Int.reduceLE, Int.reduceLT, Int.reduceEq, Int.reduceNe, Int.reduceAdd, Int.reduceSub, Int.reduceMul, Int.reduceNeg, UInt8.reduceToNat, decide_true, decide_false, decide_not, Int.cast_ofNat_Int, Int.natCast_add, Int.add_sub_cancel, Int.sub_add_cancel, Int.toNat_natCast, eq_self, not_true_eq_false, not_false_eq_true])
  · simp (dsimp := false) (implicitDefEqProofs := false) (maxSteps := 1000000) (disch := omega) only [go_sem, Nat.reduceAdd, Nat.reduceMul, Nat.reduceEqDiff, Nat.reduceBEq, cond_true, cond_false, Nat.reduceLT, Nat.reduceLeDiff, Nat.reduceSub, Int.reduceToNat, Int.reduceLE, Int.reduceLT, Int.reduceEq, Int.reduceNe, Int.reduceAdd, Int.reduceSub, Int.reduceMul, Int.reduceNeg, UInt8.reduceToNat, decide_true, decide_false, decide_not, Int.cast_ofNat_Int, Int.natCast_add, Int.add_sub_cancel, Int.sub_add_cancel, Int.toNat_natCast, eq_self, not_true_eq_false, not_false_eq_true]
    exact endGrow rfl h3 (by rw [h2, List.drop_eq_nil_of_le (by show 17 ≤ a; omega)]; rfl)
theorem part_walk (x : Int) (G : Nat) (M : Mem) (hG : Glob G M) : ACalls prog G 52 [.int .i64 x] M (Says (.bool (inTab otherT x || inTab letterT x)) M) := by
  have hG' := hG
  obtain ⟨hg, _, ⟨e, fz, hM⟩⟩ := hG
  have hg4 : 4 < G := hg.1
  refine ACalls.walk (N := 22) (rs := [.tmp 2]) func52 rfl rfl (by kernel_rfl) (by kernel_rfl) fun hw => ?_
  simp (dsimp := false) (implicitDefEqProofs := false) (maxSteps := 1000000) (disch := omega) only [go_sem, Nat.reduceAdd, Nat.reduceMul, Nat.reduceEqDiff, Nat.reduceBEq, cond_true, cond_false, Nat.reduceLT, Nat.reduceLeDiff, Nat.reduceSub, Int.reduceToNat, Int.reduceLE, Int.reduceLT, Int.reduceEq, Int.reduceNe, Int.reduceAdd, Int.reduceSub, Int.reduceMul, Int.reduceNeg, UInt8.reduceToNat, decide_true, decide_false, decide_not, Int.cast_ofNat_Int, Int.natCast_add, Int.add_sub_cancel, Int.sub_add_cancel, Int.toNat_natCast, eq_self, not_true_eq_false, not_false_eq_true, hg4, hM, pairO_len]
  have e0 : (List.take 6 (pairL otherT)) = pairL otherT := rfl
  refine LP.by (fun a : Nat => [(0, .int .i64 x), (5, .agg (pairL otherT).toArray), (6, .int .i64 a)]) (fun a M' => a ≤ 3 ∧ inTab otherT x = inTab (otherT.drop a) x ∧ Grow M M') (fun a => 3 - a) 0 (by kernel_rfl) ⟨by omega, rfl, .refl M⟩ (by simp (dsimp := false) (implicitDefEqProofs := false) (maxSteps := 1000000) (disch := omega) only [go_sem, Nat.reduceAdd, Nat.reduceMul, Nat.reduceEqDiff, Nat.reduceBEq, cond_true, cond_false, Nat.reduceLT, Nat.reduceLeDiff, Nat.reduceSub, Int.reduceToNat, Int.reduceLE, Int.reduceLT, Int.reduceEq, Int.reduceNe, Int.reduceAdd, Int.reduceSub, Int.reduceMul, Int.reduceNeg, UInt8.reduceToNat, decide_true, decide_false, decide_not, Int.cast_ofNat_Int, Int.natCast_add, Int.add_sub_cancel, Int.sub_add_cancel, Int.toNat_natCast, eq_self, not_true_eq_false, not_false_eq_true, e0]) ?_
  rintro a M' ⟨h1, h2, h3⟩ ih
  simp (dsimp := false) (implicitDefEqProofs := false) (maxSteps := 1000000) (disch := omega) only [go_sem, Nat.reduceAdd, Nat.reduceMul, Nat.reduceEqDiff, Nat.reduceBEq, cond_true, cond_false, Nat.reduceLT, Nat.reduceLeDiff, Nat.reduceSub, Int.reduceToNat, Int.reduceLE, Int.reduceLT, Int.reduceEq, Int.reduceNe, Int.reduceAdd, Int.reduceSub, Int.reduceMul, Int.reduceNeg, UInt8.reduceToNat, decide_true, decide_false, decide_not, Int.cast_ofNat_Int, Int.natCast_add, Int.add_sub_cancel, Int.sub_add_cancel, Int.toNat_natCast, eq_self, not_true_eq_false, not_false_eq_true]
  refine Br.of (fun h => ?_) (fun h => ?_)
  · have hs := inTab_step otherT x a (by show a < 3; omega)
    rw [hs] at h2
    simp (dsimp := false) (implicitDefEqProofs := false) (maxSteps := 1000000) (disch := omega) only [go_sem, Nat.reduceAdd, Nat.reduceMul, Nat.reduceEqDiff, Nat.reduceBEq, cond_true, cond_false, Nat.reduceLT, Nat.reduceLeDiff, Nat.reduceSub, Int.reduceToNat, Int.reduceLE, Int.reduceLT, Int.reduceEq, Int.reduceNe, Int.reduceAdd, Int.reduceSub, Int.reduceMul, Int.reduceNeg, UInt8.reduceToNat, decide_true, decide_false, decide_not, Int.cast_ofNat_Int, Int.natCast_add, Int.add_sub_cancel, Int.sub_add_cancel, Int.toNat_natCast, eq_self, not_true_eq_false, not_false_eq_true, pairO_len, pairO_at]
    refine ⟨by omega, by omega, Br.of (fun h4 => ?_) (fun h4 => ?_)⟩
    · simp (dsimp := false) (implicitDefEqProofs := false) (maxSteps := 1000000) (disch := omega) only [go_sem, Nat.reduceAdd, Nat.reduceMul, Nat.reduceEqDiff, Nat.reduceBEq, cond_true, cond_false, Nat.reduceLT, Nat.reduceLeDiff, Nat.reduceSub, Int.reduceToNat, Int.reduceLE, Int.reduceLT, Int.reduceEq, Int.reduceNe, Int.reduceAdd, Int.reduceSub, Int.reduceMul, Int.reduceNeg, UInt8.reduceToNat, decide_true, decide_false, decide_not, Int.cast_ofNat_Int, Int.natCast_add, Int.add_sub_cancel, Int.sub_add_cancel, Int.toNat_natCast, eq_self, not_true_eq_false, not_false_eq_true, h4]
      refine Br.of (fun h5 => ?_) (fun h5 => ?_)
      · simp (dsimp := false) (implicitDefEqProofs := false) (maxSteps := 1000000) (disch := omega) only [go_sem, Nat.reduceAdd, Nat.reduceMul, Nat.reduceEqDiff, Nat.reduceBEq, cond_true, cond_false, Nat.reduceLT, Nat.reduceLeDiff, Nat.reduceSub, Int.reduceToNat, Int.reduceLE, Int.reduceLT, Int.reduceEq, Int.reduceNe, Int.reduceAdd, Int.reduceSub, Int.reduceMul, Int.reduceNeg, UInt8.reduceToNat, decide_true, decide_false, decide_not, Int.cast_ofNat_Int, Int.natCast_add, Int.add_sub_cancel, Int.sub_add_cancel, Int.toNat_natCast, eq_self, not_true_eq_false, not_false_eq_true]
        exact endGrow rfl (.alloc hw h3) (by rw [h2]; simp only [h4, h5, and_self, decide_true, Bool.true_or])
      · simp (dsimp := false) (implicitDefEqProofs := false) (maxSteps := 1000000) (disch := omega) only [go_sem, Nat.reduceAdd, Nat.reduceMul, Nat.reduceEqDiff, Nat.reduceBEq, cond_true, cond_false, Nat.reduceLT, Nat.reduceLeDiff, Nat.reduceSub, Int.reduceToNat, Int.reduceLE, Int.reduceLT, Int.reduceEq, Int.reduceNe, Int.reduceAdd, Int.reduceSub, Int.reduceMul, Int.reduceNeg, UInt8.reduceToNat, decide_true, decide_false, decide_not, Int.cast_ofNat_Int, Int.natCast_add, Int.add_sub_cancel, Int.sub_add_cancel, Int.toNat_natCast, eq_self, not_true_eq_false, not_false_eq_true]
        exact ih (a + 1) _ _ (by omega) ⟨by omega, by rw [h2]; simp only [h4, h5, and_false, decide_false, Bool.false_or], .alloc hw h3⟩ (by simp (dsimp := false) (implicitDefEqProofs := false) (maxSteps := 1000000) (disch := omega) only [go_sem, Nat.reduceAdd, Nat.reduceMul, Nat.reduceEqDiff, Nat.reduceBEq, cond_true, cond_false, Nat.reduceLT, Nat.reduceLeDiff, Nat.reduceSub, Int.reduceToNat, Int.reduceLE, Int.reduceLT, Int.reduceEq, Int.reduceNe, Int.reduceAdd, Int.reduceSub, Int.reduceMul, Int.reduceNeg, UInt8.reduceToNat, decide_true, decide_false, decide_not, Int.cast_ofNat_Int, Int.natCast_add, Int.add_sub_cancel, Int.sub_add_cancel, Int.toNat_natCast, eq_self, not_true_eq_false, not_false_eq_true])
    · simp (dsimp := false) (implicitDefEqProofs := false) (maxSteps := 1000000) (disch := omega) only [go_sem, Nat.reduceAdd, Nat.reduceMul, Nat.reduceEqDiff, Nat.reduceBEq, cond_true, cond_false, Nat.reduceLT, Nat.reduceLeDiff, Nat.reduceSub, Int.reduceToNat, Int.reduceLE, Int.reduceLT, Int.reduceEq, Int.reduceNe, Int.reduceAdd, Int.reduceSub, Int.reduceMul, Int.reduceNeg, UInt8.reduceToNat, decide_true, decide_false, decide_not, Int.cast_ofNat_Int, Int.natCast_add, Int.add_sub_cancel, Int.sub_add_cancel, Int.toNat_natCast, eq_self, not_true_eq_false, not_false_eq_true, h4]
      exact ih (a + 1) _ _ (by omega) ⟨by omega, by rw [h2]; simp only [h4, false_and, decide_false, Bool.false_or], .alloc hw h3⟩ (by simp (dsimp := false) (implicitDefEqProofs := false) (maxSteps := 1000000) (disch := omega) only [go_sem, Nat.reduceAdd, Nat.reduceMul, Nat.reduceEqDiff, Nat.reduceBEq, cond_true, cond_false, Nat.reduceLT, Nat.reduceLeDiff, Nat.reduceSub, Int.reduceToNat, Int.reduceLE, Int.reduceLT, Int.reduceEq, Int.reduceNe, Int.reduceAdd, Int.reduceSub, Int.reduceMul, Int.reduceNeg, UInt8.reduceToNat, decide_true, decide_false, decide_not, Int.cast_ofNat_Int, Int.natCast_add, Int.add_sub_cancel, Int.sub_add_cancel, Int.toNat_natCast, eq_self, not_true_eq_false, not_false_eq_true])
  · simp (dsimp := false) (implicitDefEqProofs := false) (maxSteps := 1000000) (disch := omega) only [go_sem, Nat.reduceAdd, Nat.reduceMul, Nat.reduceEqDiff, Nat.reduceBEq, cond_true, cond_false, Nat.reduceLT, Nat.reduceLeDiff, Nat.reduceSub, Int.reduceToNat, Int.reduceLE, Int.reduceLT, Int.reduceEq, Int.reduceNe, Int.reduceAdd, Int.reduceSub, Int.reduceMul, Int.reduceNeg, UInt8.reduceToNat, decide_true, decide_false, decide_not, Int.cast_ofNat_Int, Int.natCast_add, Int.add_sub_cancel, Int.sub_add_cancel, Int.toNat_natCast, eq_self, not_true_eq_false, not_false_eq_true]
    have hf : inTab otherT x = false := by rw [h2, List.drop_eq_nil_of_le (by show 3 ≤ a; omega)]; rfl
    refine CF.at ((letter_walk x G M' (hG'.keep h3.1)).callF func39 rfl rfl) ?_
    simp (dsimp := false) (implicitDefEqProofs := false) (maxSteps := 1000000) (disch := omega) only [go_sem, Nat.reduceAdd, Nat.reduceMul, Nat.reduceEqDiff, Nat.reduceBEq, cond_true, cond_false, Nat.reduceLT, Nat.reduceLeDiff, Nat.reduceSub, Int.reduceToNat, Int.reduceLE, Int.reduceLT, Int.reduceEq, Int.reduceNe, Int.reduceAdd, Int.reduceSub, Int.reduceMul, Int.reduceNeg, UInt8.reduceToNat, decide_true, decide_false, decide_not, Int.cast_ofNat_Int, Int.natCast_add, Int.add_sub_cancel, Int.sub_add_cancel, Int.toNat_natCast, eq_self, not_true_eq_false, not_false_eq_true]
    exact endGrow rfl h3 (by rw [hf]; rfl)
end Go.Proofs.Tryd
