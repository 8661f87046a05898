/-
  Walks of the seat of LexCuts, part 3: classes of characters, and words.
-/
import Derived.Test.YtpljlblmagodlaaDoorW2
set_option linter.unusedVariables false
set_option linter.unusedSimpArgs false
set_option linter.unusedSimpArgs false
set_option maxRecDepth 100000
set_option maxHeartbeats 4000000
namespace Go.Proofs.Tryd
open Go Go.AL
def nxt32 (l : List UInt8) (i : Int) : Value := .tuple #[.int .i32 (nxt l i).1, .int .i64 (nxt l i).2.1, .bool (nxt l i).2.2]
theorem nxt_lt (l : List UInt8) (i : Int) : (nxt l i).1 < 1114112 ∧ (nxt l i).2.1 ≤ 4 := by
  unfold nxt
  split
  · simp
  · exact ⟨dec_lt _, dec_four _⟩
theorem next38_walk (l : List UInt8) (i : Int) (hl : l.length < 1000000000) : Pure 38 [.string (bs l), .int .i64 i] (nxt32 l i) := by
  intro G M
  refine ACalls.walk (N := 21) (rs := [.tmp 4, .tmp 5, .tmp 6]) func38 rfl rfl (by kernel_rfl) (by kernel_rfl) fun hw => ?_
  have h := nxt_lt l i
  simp (dsimp := false) (implicitDefEqProofs := false) (maxSteps := 1000000) (disch := omega) only [go_sem, Nat.reduceAdd, Nat.reduceMul, Nat.reduceEqDiff, Nat.reduceBEq, cond_true, cond_false, Nat.reduceLT, Nat.reduceLeDiff, Nat.reduceSub, Int.reduceToNat, Int.reduceLE, Int.reduceLT, Int.reduceEq, Int.reduceNe, Int.reduceAdd, Int.reduceSub, Int.reduceMul, Int.reduceNeg, UInt8.reduceToNat, decide_true, decide_false, decide_not, Int.cast_ofNat_Int, Int.natCast_add, Int.add_sub_cancel, Int.sub_add_cancel, Int.toNat_natCast, eq_self, not_true_eq_false, not_false_eq_true]
  refine CF.same (next_same l i hl) ?_
  simp (dsimp := false) (implicitDefEqProofs := false) (maxSteps := 1000000) (disch := omega) only [go_sem, Nat.reduceAdd, Nat.reduceMul, Nat.reduceEqDiff, Nat.reduceBEq, cond_true, cond_false, Nat.reduceLT, Nat.reduceLeDiff, Nat.reduceSub, Int.reduceToNat, Int.reduceLE, Int.reduceLT, Int.reduceEq, Int.reduceNe, Int.reduceAdd, Int.reduceSub, Int.reduceMul, Int.reduceNeg, UInt8.reduceToNat, decide_true, decide_false, decide_not, Int.cast_ofNat_Int, Int.natCast_add, Int.add_sub_cancel, Int.sub_add_cancel, Int.toNat_natCast, eq_self, not_true_eq_false, not_false_eq_true, nxtV]
  exact endSays rfl (Keep.refl _) rfl
theorem next38_same (l : List UInt8) (i : Int) (hl : l.length < 1000000000) : Same prog 38 [.string (bs l), .int .i64 i] (nxt32 l i) := Same.of func38 rfl rfl (next38_walk l i hl)

-- the table of words
theorem row_get (ks : List (List UInt8)) (i : Nat) (h : i < ks.length) : (ks.map fun s => Value.string (bs s))[i]? = some (.string (bs (ks.getD i []))) := by
  simp [h]
/-- The place of a word in a row; -1: nowhere. -/
def idxF : List (List UInt8) → List UInt8 → Nat → Int
  | [], _, _ => -1
  | k :: r, x, i => if x = k then i else idxF r x (i + 1)
theorem idxF_ge : ∀ (ks : List (List UInt8)) (x : List UInt8) (i : Nat), 0 ≤ idxF ks x i ↔ x ∈ ks
  | [], x, i => by simp [idxF]
  | k :: r, x, i => by
    simp only [idxF, List.mem_cons]
    split
    · rename_i h; simp [h]
    · rename_i h; rw [idxF_ge r x (i + 1)]; simp [h]
theorem index74_walk (ks : List (List UInt8)) (x : List UInt8) (hk : ks.length < 1000000) (G : Nat) (M : Mem) (k : Nat) (e fz : Nat) (ro : Bool) (hM : M.get k = some (.cells (ks.map fun s => Value.string (bs s)) e fz ro)) :
    ACalls prog G 74 [.slice (some ⟨k, 0, none⟩) ks.length ks.length, .string (bs x)] M (Says (.int .i64 (idxF ks x 0)) M) := by
  refine ACalls.walk (N := 19) (rs := [.tmp 4]) func74 rfl rfl (by kernel_rfl) (by kernel_rfl) fun hw => ?_
  simp (dsimp := false) (implicitDefEqProofs := false) (maxSteps := 1000000) (disch := omega) only [go_sem, Nat.reduceAdd, Nat.reduceMul, Nat.reduceEqDiff, Nat.reduceBEq, cond_true, cond_false, Nat.reduceLT, Nat.reduceLeDiff, Nat.reduceSub, Int.reduceToNat, Int.reduceLE, Int.reduceLT, Int.reduceEq, Int.reduceNe, Int.reduceAdd, Int.reduceSub, Int.reduceMul, Int.reduceNeg, UInt8.reduceToNat, decide_true, decide_false, decide_not, Int.cast_ofNat_Int, Int.natCast_add, Int.add_sub_cancel, Int.sub_add_cancel, Int.toNat_natCast, eq_self, not_true_eq_false, not_false_eq_true]
  refine LP.by (fun a : Nat => [(0, .slice (some ⟨k, 0, none⟩) ks.length ks.length), (1, .string (bs x)), (7, .int .i64 ks.length), (8, .int .i64 a)]) (fun a M' => a ≤ ks.length ∧ idxF ks x 0 = idxF (ks.drop a) x a ∧ M' = M) (fun a => ks.length - a) 0 (by kernel_rfl) (by simp) (by simp (dsimp := false) (implicitDefEqProofs := false) (maxSteps := 1000000) (disch := omega) only [go_sem, Nat.reduceAdd, Nat.reduceMul, Nat.reduceEqDiff, Nat.reduceBEq, cond_true, cond_false, Nat.reduceLT, Nat.reduceLeDiff, Nat.reduceSub, Int.reduceToNat, Int.reduceLE, Int.reduceLT, Int.reduceEq, Int.reduceNe, Int.reduceAdd, Int.reduceSub, Int.reduceMul, Int.reduceNeg, UInt8.reduceToNat, decide_true, decide_false, decide_not, Int.cast_ofNat_Int, Int.natCast_add, Int.add_sub_cancel, Int.sub_add_cancel, Int.toNat_natCast, eq_self, not_true_eq_false, not_false_eq_true]) ?_
  rintro a M' ⟨h1, h2, rfl⟩ ih
  simp (dsimp := false) (implicitDefEqProofs := false) (maxSteps := 1000000) (disch := omega) only [go_sem, Nat.reduceAdd, Nat.reduceMul, Nat.reduceEqDiff, Nat.reduceBEq, cond_true, cond_false, Nat.reduceLT, Nat.reduceLeDiff, Nat.reduceSub, Int.reduceToNat, Int.reduceLE, Int.reduceLT, Int.reduceEq, Int.reduceNe, Int.reduceAdd, Int.reduceSub, Int.reduceMul, Int.reduceNeg, UInt8.reduceToNat, decide_true, decide_false, decide_not, Int.cast_ofNat_Int, Int.natCast_add, Int.add_sub_cancel, Int.sub_add_cancel, Int.toNat_natCast, eq_self, not_true_eq_false, not_false_eq_true]
  refine Br.of (fun h => ?_) (fun h => ?_)
  · simp (dsimp := false) (implicitDefEqProofs := false) (maxSteps := 1000000) (disch := omega) only [go_sem, Nat.reduceAdd, Nat.reduceMul, Nat.reduceEqDiff, Nat.reduceBEq, cond_true, cond_false, Nat.reduceLT, Nat.reduceLeDiff, Nat.reduceSub, Int.reduceToNat, Int.reduceLE, Int.reduceLT, Int.reduceEq, Int.reduceNe, Int.reduceAdd, Int.reduceSub, Int.reduceMul, Int.reduceNeg, UInt8.reduceToNat, decide_true, decide_false, decide_not, Int.cast_ofNat_Int, Int.natCast_add, Int.add_sub_cancel, Int.sub_add_cancel, Int.toNat_natCast, eq_self, not_true_eq_false, not_false_eq_true, Nat.mul_one, hM, row_get]
    have e : ks.drop a = ks.getD a [] :: ks.drop (a + 1) := by
      rw [List.drop_eq_getElem_cons h]; simp [h]
    rw [e, idxF] at h2
    refine ⟨⟨by omega, by omega⟩, Br.of (fun h3 => ?_) (fun h3 => ?_)⟩
    · simp (dsimp := false) (implicitDefEqProofs := false) (maxSteps := 1000000) (disch := omega) only [go_sem, Nat.reduceAdd, Nat.reduceMul, Nat.reduceEqDiff, Nat.reduceBEq, cond_true, cond_false, Nat.reduceLT, Nat.reduceLeDiff, Nat.reduceSub, Int.reduceToNat, Int.reduceLE, Int.reduceLT, Int.reduceEq, Int.reduceNe, Int.reduceAdd, Int.reduceSub, Int.reduceMul, Int.reduceNeg, UInt8.reduceToNat, decide_true, decide_false, decide_not, Int.cast_ofNat_Int, Int.natCast_add, Int.add_sub_cancel, Int.sub_add_cancel, Int.toNat_natCast, eq_self, not_true_eq_false, not_false_eq_true]
      exact endSays rfl (Keep.refl _) (by rw [h2, if_pos h3])
    · simp (dsimp := false) (implicitDefEqProofs := false) (maxSteps := 1000000) (disch := omega) only [go_sem, Nat.reduceAdd, Nat.reduceMul, Nat.reduceEqDiff, Nat.reduceBEq, cond_true, cond_false, Nat.reduceLT, Nat.reduceLeDiff, Nat.reduceSub, Int.reduceToNat, Int.reduceLE, Int.reduceLT, Int.reduceEq, Int.reduceNe, Int.reduceAdd, Int.reduceSub, Int.reduceMul, Int.reduceNeg, UInt8.reduceToNat, decide_true, decide_false, decide_not, Int.cast_ofNat_Int, Int.natCast_add, Int.add_sub_cancel, Int.sub_add_cancel, Int.toNat_natCast, eq_self, not_true_eq_false, not_false_eq_true]
      exact ih (a + 1) _ _ (by omega) ⟨by omega, by rw [h2, if_neg h3], rfl⟩ (by simp (dsimp := false) (implicitDefEqProofs := false) (maxSteps := 1000000) (disch := omega) only [go_sem, Nat.reduceAdd, Nat.reduceMul, Nat.reduceEqDiff, Nat.reduceBEq, cond_true, cond_false, Nat.reduceLT, Nat.reduceLeDiff, Nat.reduceSub, Int.reduceToNat, Int.reduceLE, Int.reduceLT, Int.reduceEq, Int.reduceNe, Int.reduceAdd, Int.reduceSub, Int.reduceMul, Int.reduceNeg, UInt8.reduceToNat, decide_true, decide_false, decide_not, Int.cast_ofNat_Int, Int.natCast_add, Int.add_sub_cancel, Int.sub_add_cancel, Int.toNat_natCast, eq_self, not_true_eq_false, not_false_eq_true])
  · simp (dsimp := false) (implicitDefEqProofs := false) (maxSteps := 1000000) (disch := omega) only [go_sem, Nat.reduceAdd, Nat.reduceMul, Nat.reduceEqDiff, Nat.reduceBEq, cond_true, cond_false, Nat.reduceLT, Nat.reduceLeDiff, Nat.reduceSub, Int.reduceToNat, Int.reduceLE, Int.reduceLT, Int.reduceEq, Int.reduceNe, Int.reduceAdd, Int.reduceSub, Int.reduceMul, Int.reduceNeg, UInt8.reduceToNat, decide_true, decide_false, decide_not, Int.cast_ofNat_Int, Int.natCast_add, Int.add_sub_cancel, Int.sub_add_cancel, Int.toNat_natCast, eq_self, not_true_eq_false, not_false_eq_true]
    exact endSays rfl (Keep.refl _) (by rw [h2, List.drop_eq_nil_of_le (by omega)]; rfl)
theorem contains_walk (ks : List (List UInt8)) (x : List UInt8) (hk : ks.length < 1000000) (G : Nat) (M : Mem) (k : Nat) (e fz : Nat) (ro : Bool) (hM : M.get k = some (.cells (ks.map fun s => Value.string (bs s)) e fz ro)) :
    ACalls prog G 65 [.slice (some ⟨k, 0, none⟩) ks.length ks.length, .string (bs x)] M (Says (.bool (decide (x ∈ ks))) M) := by
  refine ACalls.walk (N := 9) (rs := [.tmp 4]) func65 rfl rfl (by kernel_rfl) (by kernel_rfl) fun hw => ?_
  simp (dsimp := false) (implicitDefEqProofs := false) (maxSteps := 1000000) (disch := omega) only [go_sem, Nat.reduceAdd, Nat.reduceMul, Nat.reduceEqDiff, Nat.reduceBEq, cond_true, cond_false, Nat.reduceLT, Nat.reduceLeDiff, Nat.reduceSub, Int.reduceToNat, Int.reduceLE, Int.reduceLT, Int.reduceEq, Int.reduceNe, Int.reduceAdd, Int.reduceSub, Int.reduceMul, Int.reduceNeg, UInt8.reduceToNat, decide_true, decide_false, decide_not, Int.cast_ofNat_Int, Int.natCast_add, Int.add_sub_cancel, Int.sub_add_cancel, Int.toNat_natCast, eq_self, not_true_eq_false, not_false_eq_true]
  refine CF.at ((index74_walk ks x hk G M k e fz ro hM).callF func74 rfl rfl) ?_
  simp (dsimp := false) (implicitDefEqProofs := false) (maxSteps := 1000000) (disch := omega) only [go_sem, Nat.reduceAdd, Nat.reduceMul, Nat.reduceEqDiff, Nat.reduceBEq, cond_true, cond_false, Nat.reduceLT, Nat.reduceLeDiff, Nat.reduceSub, Int.reduceToNat, Int.reduceLE, Int.reduceLT, Int.reduceEq, Int.reduceNe, Int.reduceAdd, Int.reduceSub, Int.reduceMul, Int.reduceNeg, UInt8.reduceToNat, decide_true, decide_false, decide_not, Int.cast_ofNat_Int, Int.natCast_add, Int.add_sub_cancel, Int.sub_add_cancel, Int.toNat_natCast, eq_self, not_true_eq_false, not_false_eq_true]
  exact endSays rfl (Keep.refl _) (by simp only [idxF_ge])
def keyWords : List (List UInt8) := [[97, 110, 100], [97, 114, 114, 97, 121], [98, 101, 103, 105, 110], [99, 111, 110, 115, 116], [100, 111], [101, 108, 105, 102], [101, 108, 115, 101], [101, 110, 100], [102, 111, 114], [105, 102], [110, 111, 116], [111, 102], [111, 114], [112, 114, 111, 99], [112, 114, 111, 103, 114, 97, 109], [114, 101, 99, 111, 114, 100], [114, 101, 112, 101, 97, 116], [114, 101, 116, 117, 114, 110], [115, 107, 105, 112], [116, 104, 101, 110], [116, 111], [117, 110, 116, 105, 108], [118, 97, 114], [119, 104, 105, 108, 101]]
theorem keys_walk (G : Nat) (M : Mem) : ACalls prog G 66 [] M fun v M' => v = .slice (some ⟨M.next, 0, none⟩) keyWords.length keyWords.length ∧ M' = M.alloc (.cells (keyWords.map fun s => Value.string (bs s)) 9 0 false) := by
  refine ACalls.walk (N := 2) (rs := [.tmp 0]) func66 rfl rfl (by kernel_rfl) (by kernel_rfl) fun hw => ?_
  simp (dsimp := false) (implicitDefEqProofs := false) (maxSteps := 1000000) (disch := omega) only [go_sem, Nat.reduceAdd, Nat.reduceMul, Nat.reduceEqDiff, Nat.reduceBEq, cond_true, cond_false, Nat.reduceLT, Nat.reduceLeDiff, Nat.reduceSub, Int.reduceToNat, Int.reduceLE, Int.reduceLT, Int.reduceEq, Int.reduceNe, Int.reduceAdd, Int.reduceSub, Int.reduceMul, Int.reduceNeg, UInt8.reduceToNat, decide_true, decide_false, decide_not, Int.cast_ofNat_Int, Int.natCast_add, Int.add_sub_cancel, Int.sub_add_cancel, Int.toNat_natCast, eq_self, not_true_eq_false, not_false_eq_true]
  refine O1_of (v := (9, keyWords.map fun s => Value.string (bs s))) (by kernel_rfl) ?_
  refine O1_of (v := .cells (keyWords.map fun s => Value.string (bs s)) 9 0 false) (by kernel_rfl) ?_
  simp (dsimp := false) (implicitDefEqProofs := false) (maxSteps := 1000000) (disch := omega) only [go_sem, Nat.reduceAdd, Nat.reduceMul, Nat.reduceEqDiff, Nat.reduceBEq, cond_true, cond_false, Nat.reduceLT, Nat.reduceLeDiff, Nat.reduceSub, Int.reduceToNat, Int.reduceLE, Int.reduceLT, Int.reduceEq, Int.reduceNe, Int.reduceAdd, Int.reduceSub, Int.reduceMul, Int.reduceNeg, UInt8.reduceToNat, decide_true, decide_false, decide_not, Int.cast_ofNat_Int, Int.natCast_add, Int.add_sub_cancel, Int.sub_add_cancel, Int.toNat_natCast, eq_self, not_true_eq_false, not_false_eq_true]
  exact ⟨_, .less _ rfl (fun _ _ h => h), rfl, rfl⟩
theorem isKey_walk (x : List UInt8) : Pure 55 [.string (bs x)] (.bool (decide (x ∈ keyWords))) := by
  intro G M
  refine ACalls.walk (N := 6) (rs := [.tmp 2]) func55 rfl rfl (by kernel_rfl) (by kernel_rfl) fun hw => ?_
  simp (dsimp := false) (implicitDefEqProofs := false) (maxSteps := 1000000) (disch := omega) only [go_sem, Nat.reduceAdd, Nat.reduceMul, Nat.reduceEqDiff, Nat.reduceBEq, cond_true, cond_false, Nat.reduceLT, Nat.reduceLeDiff, Nat.reduceSub, Int.reduceToNat, Int.reduceLE, Int.reduceLT, Int.reduceEq, Int.reduceNe, Int.reduceAdd, Int.reduceSub, Int.reduceMul, Int.reduceNeg, UInt8.reduceToNat, decide_true, decide_false, decide_not, Int.cast_ofNat_Int, Int.natCast_add, Int.add_sub_cancel, Int.sub_add_cancel, Int.toNat_natCast, eq_self, not_true_eq_false, not_false_eq_true]
  refine CF.by ((keys_walk G M).callF func66 rfl rfl) ?_
  rintro v M' ⟨rfl, rfl⟩
  simp (dsimp := false) (implicitDefEqProofs := false) (maxSteps := 1000000) (disch := omega) only [go_sem, Nat.reduceAdd, Nat.reduceMul, Nat.reduceEqDiff, Nat.reduceBEq, cond_true, cond_false, Nat.reduceLT, Nat.reduceLeDiff, Nat.reduceSub, Int.reduceToNat, Int.reduceLE, Int.reduceLT, Int.reduceEq, Int.reduceNe, Int.reduceAdd, Int.reduceSub, Int.reduceMul, Int.reduceNeg, UInt8.reduceToNat, decide_true, decide_false, decide_not, Int.cast_ofNat_Int, Int.natCast_add, Int.add_sub_cancel, Int.sub_add_cancel, Int.toNat_natCast, eq_self, not_true_eq_false, not_false_eq_true]
  refine CF.at ((contains_walk keyWords x (by decide) G _ M.next 9 0 false (by simp (dsimp := false) (implicitDefEqProofs := false) (maxSteps := 1000000) (disch := omega) only [go_sem, Nat.reduceAdd, Nat.reduceMul, Nat.reduceEqDiff, Nat.reduceBEq, cond_true, cond_false, Nat.reduceLT, Nat.reduceLeDiff, Nat.reduceSub, Int.reduceToNat, Int.reduceLE, Int.reduceLT, Int.reduceEq, Int.reduceNe, Int.reduceAdd, Int.reduceSub, Int.reduceMul, Int.reduceNeg, UInt8.reduceToNat, decide_true, decide_false, decide_not, Int.cast_ofNat_Int, Int.natCast_add, Int.add_sub_cancel, Int.sub_add_cancel, Int.toNat_natCast, eq_self, not_true_eq_false, not_false_eq_true])).callF func65 rfl rfl) ?_
  simp (dsimp := false) (implicitDefEqProofs := false) (maxSteps := 1000000) (disch := omega) only [go_sem, Nat.reduceAdd, Nat.reduceMul, Nat.reduceEqDiff, Nat.reduceBEq, cond_true, cond_false, Nat.reduceLT, Nat.reduceLeDiff, Nat.reduceSub, Int.reduceToNat, Int.reduceLE, Int.reduceLT, Int.reduceEq, Int.reduceNe, Int.reduceAdd, Int.reduceSub, Int.reduceMul, Int.reduceNeg, UInt8.reduceToNat, decide_true, decide_false, decide_not, Int.cast_ofNat_Int, Int.natCast_add, Int.add_sub_cancel, Int.sub_add_cancel, Int.toNat_natCast, eq_self, not_true_eq_false, not_false_eq_true]
  exact endGrow rfl (.alloc hw (.refl M)) rfl
theorem isKey_same (x : List UInt8) : Same prog 55 [.string (bs x)] (.bool (decide (x ∈ keyWords))) := Same.of func55 rfl rfl (isKey_walk x)
end Go.Proofs.Tryd
