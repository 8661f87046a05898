/-
  Walks of the seat of LexCuts, part 13: what is whole of a text.
-/
import Derived.Test.YtpljlblmagodlaaDoorW12
set_option linter.unusedVariables false
set_option linter.unusedSimpArgs false
set_option linter.unusedSimpArgs false
set_option maxRecDepth 100000
set_option maxHeartbeats 4000000
namespace Go.Proofs.Tryd
open Go Go.AL
/-- utf8's table of first bytes. -/
def firstV (i : Nat) : Nat := if i < 128 then 240 else if i < 194 then 241 else if i < 224 then 2 else if i = 224 then 19 else if i = 237 then 35 else if i < 240 then 3 else if i = 240 then 52 else if i < 244 then 4 else if i = 244 then 68 else 241
def firstL : List Value := (List.range 256).map fun i => .int .u8 (firstV i)
theorem firstL_length : firstL.length = 256 := by simp [firstL]
theorem firstL_get (c : UInt8) : firstL[c.toNat]? = some (.int .u8 (firstV c.toNat)) := by
  have := c.toNat_lt
  simp [firstL, this]
def acceptT (i : Nat) : Nat × Nat := if i = 0 then (128, 191) else if i = 1 then (160, 191) else if i = 2 then (128, 159) else if i = 3 then (144, 191) else if i = 4 then (128, 143) else (0, 0)
def acceptL : List Value := (List.range 16).flatMap fun i => [.int .u8 (acceptT i).1, .int .u8 (acceptT i).2]
theorem acceptL_length : acceptL.length = 32 := rfl
theorem acceptL_at (i : Nat) (h : i < 16) : (acceptL.drop (i * 2)).take 2 = [.int .u8 (acceptT i).1, .int .u8 (acceptT i).2] := by
  rcases i with _ | _ | _ | _ | _ | _ | _ | _ | _ | _ | _ | _ | _ | _ | _ | _ | i <;> first | rfl | omega
/-- utf8's tables lie where they do. -/
structure GlobU (G : Nat) (M : Mem) : Prop where
  g : 0 < G ∧ 1 < G
  first : ∃ e fz, M.get 0 = some (.cells firstL e fz true)
  accept : ∃ e fz, M.get 1 = some (.cells acceptL e fz true)
theorem GlobU.keep {G : Nat} {M M' : Mem} (h : GlobU G M) (hk : Keep M M') : GlobU G M' := by
  obtain ⟨h1, ⟨e, fz, h2⟩, ⟨e', fz', h3⟩⟩ := h
  exact ⟨h1, ⟨e, fz, hk _ _ h2⟩, ⟨e', fz', hk _ _ h3⟩⟩
/-- utf8.FullRuneInString. -/
def fullR (l : List UInt8) : Bool :=
  if l.length = 0 then false
  else if firstV (atB l 0) % 8 ≤ l.length then true
  else if 1 < l.length ∧ (atB l 1 < (acceptT (firstV (atB l 0) / 16)).1 ∨ (acceptT (firstV (atB l 0) / 16)).2 < atB l 1) then true
  else decide (2 < l.length ∧ (atB l 2 < 128 ∨ 191 < atB l 2))
theorem firstV_lt (i : Nat) : firstV i < 256 := by
  unfold firstV
  repeat' split
  all_goals omega
theorem and7 : ∀ x : Nat, x < 256 → IntKind.u8.wrap (((BitVec.ofInt IntKind.u8.bits (x : Int) &&& BitVec.ofInt IntKind.u8.bits 7).toNat : Nat) : Int) = ((x % 8 : Nat) : Int) := by
  have : ∀ x : Fin 256, IntKind.u8.wrap (((BitVec.ofInt IntKind.u8.bits ((x : Nat) : Int) &&& BitVec.ofInt IntKind.u8.bits 7).toNat : Nat) : Int) = ((x.val % 8 : Nat) : Int) := by decide
  intro x h
  exact this ⟨x, h⟩
theorem shr4 (x : Nat) : (x : Int).fdiv (2 ^ min 4 8) = ((x / 16 : Nat) : Int) := by
  show (x : Int).fdiv 16 = _
  rw [Int.fdiv_eq_ediv_of_nonneg _ (by omega)]
  omega
theorem full_walk (l : List UInt8) (hl : l.length < 1000000000) (G : Nat) (M : Mem) (hG : GlobU G M) : ACalls prog G 23 [.string (bs l)] M (Says (.bool (fullR l)) M) := by
  obtain ⟨⟨hg0, hg1⟩, ⟨e0, z0, hM0⟩, ⟨e1, z1, hM1⟩⟩ := hG
  refine ACalls.walk (N := 51) (rs := [.tmp 2]) func23 rfl rfl (by kernel_rfl) (by kernel_rfl) fun hw => ?_
  have hb : ∀ k, atB l k < 256 := fun k => (l.getD k 0).toNat_lt
  have h0 := hb 0
  have h1 := hb 1
  have h2 := hb 2
  have hx := firstV_lt (atB l 0)
  have hat : ∀ k, (l.getD k 0).toNat = atB l k := fun _ => rfl
  have hf : firstL[atB l 0]? = some (.int .u8 (firstV (atB l 0))) := firstL_get _
  simp (dsimp := false) (implicitDefEqProofs := false) (maxSteps := 1000000) (disch := omega) only [go_sem, Nat.reduceAdd, Nat.reduceMul, Nat.reduceEqDiff, Nat.reduceBEq, cond_true, cond_false, Nat.reduceLT, Nat.reduceLeDiff, Nat.reduceSub, Int.reduceToNat, Int.reduceLE, Int.reduceLT, Int.reduceEq, Int.reduceNe, Int.reduceAdd, Int.reduceSub, Int.reduceMul, Int.reduceNeg, UInt8.reduceToNat, decide_true, decide_false, decide_not, Int.cast_ofNat_Int, Int.natCast_add, Int.add_sub_cancel, Int.sub_add_cancel, Int.toNat_natCast, eq_self, not_true_eq_false, not_false_eq_true]
  refine Br.of (fun h3 => ?_) (fun h3 => ?_)
  · simp (dsimp := false) (implicitDefEqProofs := false) (maxSteps := 1000000) (disch := omega) only [go_sem, Nat.reduceAdd, Nat.reduceMul, Nat.reduceEqDiff, Nat.reduceBEq, cond_true, cond_false, Nat.reduceLT, Nat.reduceLeDiff, Nat.reduceSub, Int.reduceToNat, Int.reduceLE, Int.reduceLT, Int.reduceEq, Int.reduceNe, Int.reduceAdd, Int.reduceSub, Int.reduceMul, Int.reduceNeg, UInt8.reduceToNat, decide_true, decide_false, decide_not, Int.cast_ofNat_Int, Int.natCast_add, Int.add_sub_cancel, Int.sub_add_cancel, Int.toNat_natCast, eq_self, not_true_eq_false, not_false_eq_true]
    exact endSays rfl (Keep.refl _) (by rw [fullR, if_pos (by omega)])
  simp (dsimp := false) (implicitDefEqProofs := false) (maxSteps := 1000000) (disch := omega) only [go_sem, Nat.reduceAdd, Nat.reduceMul, Nat.reduceEqDiff, Nat.reduceBEq, cond_true, cond_false, Nat.reduceLT, Nat.reduceLeDiff, Nat.reduceSub, Int.reduceToNat, Int.reduceLE, Int.reduceLT, Int.reduceEq, Int.reduceNe, Int.reduceAdd, Int.reduceSub, Int.reduceMul, Int.reduceNeg, UInt8.reduceToNat, decide_true, decide_false, decide_not, Int.cast_ofNat_Int, Int.natCast_add, Int.add_sub_cancel, Int.sub_add_cancel, Int.toNat_natCast, eq_self, not_true_eq_false, not_false_eq_true, get_some, hat, hg0, hM0, firstL_length, Nat.mul_one, hf]
  refine ⟨by omega, ?_⟩
  simp (dsimp := false) (implicitDefEqProofs := false) (maxSteps := 1000000) (disch := omega) only [go_sem, Nat.reduceAdd, Nat.reduceMul, Nat.reduceEqDiff, Nat.reduceBEq, cond_true, cond_false, Nat.reduceLT, Nat.reduceLeDiff, Nat.reduceSub, Int.reduceToNat, Int.reduceLE, Int.reduceLT, Int.reduceEq, Int.reduceNe, Int.reduceAdd, Int.reduceSub, Int.reduceMul, Int.reduceNeg, UInt8.reduceToNat, decide_true, decide_false, decide_not, Int.cast_ofNat_Int, Int.natCast_add, Int.add_sub_cancel, Int.sub_add_cancel, Int.toNat_natCast, eq_self, not_true_eq_false, not_false_eq_true, and7 _ hx]
  refine Br.of (fun h4 => ?_) (fun h4 => ?_)
  · simp (dsimp := false) (implicitDefEqProofs := false) (maxSteps := 1000000) (disch := omega) only [go_sem, Nat.reduceAdd, Nat.reduceMul, Nat.reduceEqDiff, Nat.reduceBEq, cond_true, cond_false, Nat.reduceLT, Nat.reduceLeDiff, Nat.reduceSub, Int.reduceToNat, Int.reduceLE, Int.reduceLT, Int.reduceEq, Int.reduceNe, Int.reduceAdd, Int.reduceSub, Int.reduceMul, Int.reduceNeg, UInt8.reduceToNat, decide_true, decide_false, decide_not, Int.cast_ofNat_Int, Int.natCast_add, Int.add_sub_cancel, Int.sub_add_cancel, Int.toNat_natCast, eq_self, not_true_eq_false, not_false_eq_true]
    exact endSays rfl (Keep.refl _) (by rw [fullR, if_neg (by omega), if_pos (by omega)])
  have hi : firstV (atB l 0) / 16 < 16 := by omega
  simp (dsimp := false) (implicitDefEqProofs := false) (maxSteps := 1000000) (disch := omega) only [go_sem, Nat.reduceAdd, Nat.reduceMul, Nat.reduceEqDiff, Nat.reduceBEq, cond_true, cond_false, Nat.reduceLT, Nat.reduceLeDiff, Nat.reduceSub, Int.reduceToNat, Int.reduceLE, Int.reduceLT, Int.reduceEq, Int.reduceNe, Int.reduceAdd, Int.reduceSub, Int.reduceMul, Int.reduceNeg, UInt8.reduceToNat, decide_true, decide_false, decide_not, Int.cast_ofNat_Int, Int.natCast_add, Int.add_sub_cancel, Int.sub_add_cancel, Int.toNat_natCast, eq_self, not_true_eq_false, not_false_eq_true, shr4, hg1, hM1, acceptL_length, acceptL_at _ hi]
  have hd0 : firstV (atB l 0) / 16 < 16 := hi
  refine ⟨by omega, by omega, ?_⟩
  refine DR.way (pf := PF.none) [0,1,2,3,4,5,6,7,8,9,10,11,12,13,14,15] checked.mixed PF.none_ok (by kernel_rfl) ?_
  simp (dsimp := false) (implicitDefEqProofs := false) (maxSteps := 1000000) (disch := omega) only [go_sem, Nat.reduceAdd, Nat.reduceMul, Nat.reduceEqDiff, Nat.reduceBEq, cond_true, cond_false, Nat.reduceLT, Nat.reduceLeDiff, Nat.reduceSub, Int.reduceToNat, Int.reduceLE, Int.reduceLT, Int.reduceEq, Int.reduceNe, Int.reduceAdd, Int.reduceSub, Int.reduceMul, Int.reduceNeg, UInt8.reduceToNat, decide_true, decide_false, decide_not, Int.cast_ofNat_Int, Int.natCast_add, Int.add_sub_cancel, Int.sub_add_cancel, Int.toNat_natCast, eq_self, not_true_eq_false, not_false_eq_true]
  have hF : fullR l = if 1 < l.length ∧ (atB l 1 < (acceptT (firstV (atB l 0) / 16)).1 ∨ (acceptT (firstV (atB l 0) / 16)).2 < atB l 1) then true
      else decide (2 < l.length ∧ (atB l 2 < 128 ∨ 191 < atB l 2)) := by rw [fullR, if_neg (by omega), if_neg (by omega)]
  generalize fullR l = X at hF ⊢
  refine Br.of (fun h5 => ?_) (fun h5 => ?_)
  · simp (dsimp := false) (implicitDefEqProofs := false) (maxSteps := 1000000) (disch := omega) only [go_sem, Nat.reduceAdd, Nat.reduceMul, Nat.reduceEqDiff, Nat.reduceBEq, cond_true, cond_false, Nat.reduceLT, Nat.reduceLeDiff, Nat.reduceSub, Int.reduceToNat, Int.reduceLE, Int.reduceLT, Int.reduceEq, Int.reduceNe, Int.reduceAdd, Int.reduceSub, Int.reduceMul, Int.reduceNeg, UInt8.reduceToNat, decide_true, decide_false, decide_not, Int.cast_ofNat_Int, Int.natCast_add, Int.add_sub_cancel, Int.sub_add_cancel, Int.toNat_natCast, eq_self, not_true_eq_false, not_false_eq_true, h5, get_some, hat]
    refine Br.of (fun h6 => ?_) (fun h6 => ?_)
    · simp (dsimp := false) (implicitDefEqProofs := false) (maxSteps := 1000000) (disch := omega) only [go_sem, Nat.reduceAdd, Nat.reduceMul, Nat.reduceEqDiff, Nat.reduceBEq, cond_true, cond_false, Nat.reduceLT, Nat.reduceLeDiff, Nat.reduceSub, Int.reduceToNat, Int.reduceLE, Int.reduceLT, Int.reduceEq, Int.reduceNe, Int.reduceAdd, Int.reduceSub, Int.reduceMul, Int.reduceNeg, UInt8.reduceToNat, decide_true, decide_false, decide_not, Int.cast_ofNat_Int, Int.natCast_add, Int.add_sub_cancel, Int.sub_add_cancel, Int.toNat_natCast, eq_self, not_true_eq_false, not_false_eq_true, h5, h6]
      exact endGrow rfl (.alloc hw (.refl M)) (by rw [hF, if_pos (by omega)])
    simp (dsimp := false) (implicitDefEqProofs := false) (maxSteps := 1000000) (disch := omega) only [go_sem, Nat.reduceAdd, Nat.reduceMul, Nat.reduceEqDiff, Nat.reduceBEq, cond_true, cond_false, Nat.reduceLT, Nat.reduceLeDiff, Nat.reduceSub, Int.reduceToNat, Int.reduceLE, Int.reduceLT, Int.reduceEq, Int.reduceNe, Int.reduceAdd, Int.reduceSub, Int.reduceMul, Int.reduceNeg, UInt8.reduceToNat, decide_true, decide_false, decide_not, Int.cast_ofNat_Int, Int.natCast_add, Int.add_sub_cancel, Int.sub_add_cancel, Int.toNat_natCast, eq_self, not_true_eq_false, not_false_eq_true, h5, h6, get_some, hat]
    refine Br.of (fun h7 => ?_) (fun h7 => ?_)
    · simp (dsimp := false) (implicitDefEqProofs := false) (maxSteps := 1000000) (disch := omega) only [go_sem, Nat.reduceAdd, Nat.reduceMul, Nat.reduceEqDiff, Nat.reduceBEq, cond_true, cond_false, Nat.reduceLT, Nat.reduceLeDiff, Nat.reduceSub, Int.reduceToNat, Int.reduceLE, Int.reduceLT, Int.reduceEq, Int.reduceNe, Int.reduceAdd, Int.reduceSub, Int.reduceMul, Int.reduceNeg, UInt8.reduceToNat, decide_true, decide_false, decide_not, Int.cast_ofNat_Int, Int.natCast_add, Int.add_sub_cancel, Int.sub_add_cancel, Int.toNat_natCast, eq_self, not_true_eq_false, not_false_eq_true, h5, h6, h7]
      exact endGrow rfl (.alloc hw (.refl M)) (by rw [hF, if_pos (by omega)])
    rw [if_neg (by omega)] at hF
    simp (dsimp := false) (implicitDefEqProofs := false) (maxSteps := 1000000) (disch := omega) only [go_sem, Nat.reduceAdd, Nat.reduceMul, Nat.reduceEqDiff, Nat.reduceBEq, cond_true, cond_false, Nat.reduceLT, Nat.reduceLeDiff, Nat.reduceSub, Int.reduceToNat, Int.reduceLE, Int.reduceLT, Int.reduceEq, Int.reduceNe, Int.reduceAdd, Int.reduceSub, Int.reduceMul, Int.reduceNeg, UInt8.reduceToNat, decide_true, decide_false, decide_not, Int.cast_ofNat_Int, Int.natCast_add, Int.add_sub_cancel, Int.sub_add_cancel, Int.toNat_natCast, eq_self, not_true_eq_false, not_false_eq_true, h5, h6, h7]
    refine Br.of (fun h8 => ?_) (fun h8 => ?_)
    · simp (dsimp := false) (implicitDefEqProofs := false) (maxSteps := 1000000) (disch := omega) only [go_sem, Nat.reduceAdd, Nat.reduceMul, Nat.reduceEqDiff, Nat.reduceBEq, cond_true, cond_false, Nat.reduceLT, Nat.reduceLeDiff, Nat.reduceSub, Int.reduceToNat, Int.reduceLE, Int.reduceLT, Int.reduceEq, Int.reduceNe, Int.reduceAdd, Int.reduceSub, Int.reduceMul, Int.reduceNeg, UInt8.reduceToNat, decide_true, decide_false, decide_not, Int.cast_ofNat_Int, Int.natCast_add, Int.add_sub_cancel, Int.sub_add_cancel, Int.toNat_natCast, eq_self, not_true_eq_false, not_false_eq_true, h8, get_some, hat]
      refine Br.of (fun h9 => ?_) (fun h9 => ?_)
      · simp (dsimp := false) (implicitDefEqProofs := false) (maxSteps := 1000000) (disch := omega) only [go_sem, Nat.reduceAdd, Nat.reduceMul, Nat.reduceEqDiff, Nat.reduceBEq, cond_true, cond_false, Nat.reduceLT, Nat.reduceLeDiff, Nat.reduceSub, Int.reduceToNat, Int.reduceLE, Int.reduceLT, Int.reduceEq, Int.reduceNe, Int.reduceAdd, Int.reduceSub, Int.reduceMul, Int.reduceNeg, UInt8.reduceToNat, decide_true, decide_false, decide_not, Int.cast_ofNat_Int, Int.natCast_add, Int.add_sub_cancel, Int.sub_add_cancel, Int.toNat_natCast, eq_self, not_true_eq_false, not_false_eq_true, h8, h9]
        exact endGrow rfl (.alloc hw (.refl M)) (by rw [hF, decide_eq_true (by omega)])
      simp (dsimp := false) (implicitDefEqProofs := false) (maxSteps := 1000000) (disch := omega) only [go_sem, Nat.reduceAdd, Nat.reduceMul, Nat.reduceEqDiff, Nat.reduceBEq, cond_true, cond_false, Nat.reduceLT, Nat.reduceLeDiff, Nat.reduceSub, Int.reduceToNat, Int.reduceLE, Int.reduceLT, Int.reduceEq, Int.reduceNe, Int.reduceAdd, Int.reduceSub, Int.reduceMul, Int.reduceNeg, UInt8.reduceToNat, decide_true, decide_false, decide_not, Int.cast_ofNat_Int, Int.natCast_add, Int.add_sub_cancel, Int.sub_add_cancel, Int.toNat_natCast, eq_self, not_true_eq_false, not_false_eq_true, h8, h9, get_some, hat]
      refine Br.of (fun ha => ?_) (fun ha => ?_)
      · simp (dsimp := false) (implicitDefEqProofs := false) (maxSteps := 1000000) (disch := omega) only [go_sem, Nat.reduceAdd, Nat.reduceMul, Nat.reduceEqDiff, Nat.reduceBEq, cond_true, cond_false, Nat.reduceLT, Nat.reduceLeDiff, Nat.reduceSub, Int.reduceToNat, Int.reduceLE, Int.reduceLT, Int.reduceEq, Int.reduceNe, Int.reduceAdd, Int.reduceSub, Int.reduceMul, Int.reduceNeg, UInt8.reduceToNat, decide_true, decide_false, decide_not, Int.cast_ofNat_Int, Int.natCast_add, Int.add_sub_cancel, Int.sub_add_cancel, Int.toNat_natCast, eq_self, not_true_eq_false, not_false_eq_true, h8, ha, h9]
        exact endGrow rfl (.alloc hw (.refl M)) (by rw [hF, decide_eq_true (by omega)])
      · simp (dsimp := false) (implicitDefEqProofs := false) (maxSteps := 1000000) (disch := omega) only [go_sem, Nat.reduceAdd, Nat.reduceMul, Nat.reduceEqDiff, Nat.reduceBEq, cond_true, cond_false, Nat.reduceLT, Nat.reduceLeDiff, Nat.reduceSub, Int.reduceToNat, Int.reduceLE, Int.reduceLT, Int.reduceEq, Int.reduceNe, Int.reduceAdd, Int.reduceSub, Int.reduceMul, Int.reduceNeg, UInt8.reduceToNat, decide_true, decide_false, decide_not, Int.cast_ofNat_Int, Int.natCast_add, Int.add_sub_cancel, Int.sub_add_cancel, Int.toNat_natCast, eq_self, not_true_eq_false, not_false_eq_true, h8, ha, h9]
        exact endGrow rfl (.alloc hw (.refl M)) (by rw [hF, decide_eq_false (by omega)])
    · simp (dsimp := false) (implicitDefEqProofs := false) (maxSteps := 1000000) (disch := omega) only [go_sem, Nat.reduceAdd, Nat.reduceMul, Nat.reduceEqDiff, Nat.reduceBEq, cond_true, cond_false, Nat.reduceLT, Nat.reduceLeDiff, Nat.reduceSub, Int.reduceToNat, Int.reduceLE, Int.reduceLT, Int.reduceEq, Int.reduceNe, Int.reduceAdd, Int.reduceSub, Int.reduceMul, Int.reduceNeg, UInt8.reduceToNat, decide_true, decide_false, decide_not, Int.cast_ofNat_Int, Int.natCast_add, Int.add_sub_cancel, Int.sub_add_cancel, Int.toNat_natCast, eq_self, not_true_eq_false, not_false_eq_true, h8]
      exact endGrow rfl (.alloc hw (.refl M)) (by rw [hF, decide_eq_false (by omega)])
  · rw [if_neg (by omega)] at hF
    simp (dsimp := false) (implicitDefEqProofs := false) (maxSteps := 1000000) (disch := omega) only [go_sem, Nat.reduceAdd, Nat.reduceMul, Nat.reduceEqDiff, Nat.reduceBEq, cond_true, cond_false, Nat.reduceLT, Nat.reduceLeDiff, Nat.reduceSub, Int.reduceToNat, Int.reduceLE, Int.reduceLT, Int.reduceEq, Int.reduceNe, Int.reduceAdd, Int.reduceSub, Int.reduceMul, Int.reduceNeg, UInt8.reduceToNat, decide_true, decide_false, decide_not, Int.cast_ofNat_Int, Int.natCast_add, Int.add_sub_cancel, Int.sub_add_cancel, Int.toNat_natCast, eq_self, not_true_eq_false, not_false_eq_true, h5]
    refine Br.of (fun h8 => absurd h8 (by omega)) (fun h8 => ?_)
    simp (dsimp := false) (implicitDefEqProofs := false) (maxSteps := 1000000) (disch := omega) only [go_sem, Nat.reduceAdd, Nat.reduceMul, Nat.reduceEqDiff, Nat.reduceBEq, cond_true, cond_false, Nat.reduceLT, Nat.reduceLeDiff, Nat.reduceSub, Int.reduceToNat, Int.reduceLE, Int.reduceLT, Int.reduceEq, Int.reduceNe, Int.reduceAdd, Int.reduceSub, Int.reduceMul, Int.reduceNeg, UInt8.reduceToNat, decide_true, decide_false, decide_not, Int.cast_ofNat_Int, Int.natCast_add, Int.add_sub_cancel, Int.sub_add_cancel, Int.toNat_natCast, eq_self, not_true_eq_false, not_false_eq_true, h8]
    exact endGrow rfl (.alloc hw (.refl M)) (by rw [hF, decide_eq_false (by omega)])
end Go.Proofs.Tryd
