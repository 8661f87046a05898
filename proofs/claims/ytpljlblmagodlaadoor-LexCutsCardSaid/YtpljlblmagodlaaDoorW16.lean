/-
  Walks of the seat of LexCuts, part 16: the lexer tells a token.
-/
import Derived.Test.YtpljlblmagodlaaDoorW15
set_option linter.unusedVariables false
set_option linter.unusedSimpArgs false
set_option linter.unusedSimpArgs false
set_option maxRecDepth 100000
set_option maxHeartbeats 4000000
namespace Go.Proofs.Tryd
open Go Go.AL
def tellT (s : LexS) (kd : Nat) : List UInt8 := if kd = 7 then trimR [32, 9, 13] s.held.length s.held else s.held
def tellK (s : LexS) (kd : Nat) : Nat := if kd = 1 ∧ tellT s kd ∈ keyWords then 2 else kd
def LexS.tell (s : LexS) (kd : Nat) : LexS := { s with toks := s.toks ++ [⟨tellK s kd, tellT s kd, s.beg, s.feeds⟩], held := [], feeds := 0, state := 0 }
theorem tell_walk (k kd : Nat) (s : LexS) (F : Nat → Prop) (G : Nat) (M : Mem) (hL : LexAt M k F s) (hh : s.held.length < 1000000000) (ht : s.toks.length < 1000000000) (hkd : kd < 100) :
    ACalls prog G 27 [lp k, .int .u8 kd] M (LexTo k F M (.tuple #[]) (s.tell kd)) := by
  obtain ⟨hk, tk, hM, hH, hT, hF⟩ := hL
  refine ACalls.walk (N := 49) (rs := []) func27 rfl rfl (by kernel_rfl) (by kernel_rfl) fun hw => ?_
  have hkl := hw.lt hM
  have hk1 : k ≠ M.next := by omega
  have hk2 : M.next ≠ k := by omega
  have hk3 : k ≠ M.next + 1 := by omega
  have hM' := hM
  simp only [lexCells] at hM
  have hcv : aConvert prog 42 9 M.get (sl hk s.held.length) = some (.string (bs s.held)) := conv_sl q_elem42 q_u5 q_u9 hH
  have hkh : hk ≠ some k := hH.ne hM (by decide)
  have hkt : tk ≠ some k := hT.ne hM (by decide)
  have fin : ∀ (x : List UInt8) (q : Nat) (M1 : Mem), x = tellT s kd → q = tellK s kd → Grown (M.alloc (.cells (Tk.cells ⟨q, x, s.beg, s.feeds⟩) 39 0 false)) tk (tkCells s.toks ++ Tk.cells ⟨q, x, s.beg, s.feeds⟩) 39 M1 →
      LexTo k F M (.tuple #[]) (s.tell kd) (.tuple #[]) (M1.set k (.cells (lexCells (.slice none 0 0) (sl (some (M.next + 1)) (s.toks.length + 1)) { s with state := 0, feeds := 0 }) 44 0 false)) := by
    rintro x q M1 rfl rfl hG
    have hw1 : WF (M.alloc (.cells (Tk.cells ⟨tellK s kd, tellT s kd, s.beg, s.feeds⟩) 39 0 false)) := fun j hj => by
      rw [next_alloc] at hj
      rw [get_alloc' (by omega)]; exact hw j (by omega)
    refine ⟨rfl, fun j => j = k ∨ j = M.next + 1, ⟨none, some (M.next + 1), ?_, rfl, ?_, fun j => by simp⟩, ?_⟩
    · rw [get_set]; simp [lexCells, LexS.tell, sl_none]
    · show (M1.set k _).get (M.next + 1) = _
      rw [get_set' (fun e => hk3 e.symm)]
      have := hG.get
      rw [next_alloc] at this
      rw [this, tkCells_snoc]; rfl
    · have h1 := (hG.own hw1).more (H := F) fun j e => (hF j).2 (.inr (.inr e.symm))
      have h2 : Own M (M.alloc (.cells (Tk.cells ⟨tellK s kd, tellT s kd, s.beg, s.feeds⟩) 39 0 false)) F F := .al hw (.refl M F)
      refine (Own.st hw (.inl ((hF k).2 (.inl rfl))) (h2.trans hw h1)).to fun j hj => ?_
      rcases hj with rfl | rfl
      · exact .inl ((hF _).2 (.inl rfl))
      · exact .inr (by omega)
  simp (dsimp := false) (implicitDefEqProofs := false) (maxSteps := 1000000) (disch := omega) only [go_sem, Nat.reduceAdd, Nat.reduceMul, Nat.reduceEqDiff, Nat.reduceBEq, cond_true, cond_false, Nat.reduceLT, Nat.reduceLeDiff, Nat.reduceSub, Int.reduceToNat, Int.reduceLE, Int.reduceLT, Int.reduceEq, Int.reduceNe, Int.reduceAdd, Int.reduceSub, Int.reduceMul, Int.reduceNeg, UInt8.reduceToNat, decide_true, decide_false, decide_not, Int.cast_ofNat_Int, Int.natCast_add, Int.add_sub_cancel, Int.sub_add_cancel, Int.toNat_natCast, eq_self, not_true_eq_false, not_false_eq_true, hM, hcv]
  have hT1 : ∀ ob, Row (M.alloc ob) tk (tkCells s.toks) 39 := fun ob => hT.keep fun j o' _ e => by rw [get_alloc' (by have := hw.lt e; omega)]; exact e
  refine Br.of (fun h1 => ?_) (fun h1 => ?_)
  · have hx : trimR [32, 9, 13] s.held.length s.held = tellT s kd := by rw [tellT, if_pos (by omega)]
    simp (dsimp := false) (implicitDefEqProofs := false) (maxSteps := 1000000) (disch := omega) only [go_sem, Nat.reduceAdd, Nat.reduceMul, Nat.reduceEqDiff, Nat.reduceBEq, cond_true, cond_false, Nat.reduceLT, Nat.reduceLeDiff, Nat.reduceSub, Int.reduceToNat, Int.reduceLE, Int.reduceLT, Int.reduceEq, Int.reduceNe, Int.reduceAdd, Int.reduceSub, Int.reduceMul, Int.reduceNeg, UInt8.reduceToNat, decide_true, decide_false, decide_not, Int.cast_ofNat_Int, Int.natCast_add, Int.add_sub_cancel, Int.sub_add_cancel, Int.toNat_natCast, eq_self, not_true_eq_false, not_false_eq_true, h1]
    refine CF.same (trimR_same [32, 9, 13] s.held hh (by simp) (by simp) (by decide)) ?_
    have hkd1 : kd = 7 := by omega
    have hq : 7 = tellK s kd := by rw [tellK, if_neg (by omega), hkd1]
    simp (dsimp := false) (implicitDefEqProofs := false) (maxSteps := 1000000) (disch := omega) only [go_sem, Nat.reduceAdd, Nat.reduceMul, Nat.reduceEqDiff, Nat.reduceBEq, cond_true, cond_false, Nat.reduceLT, Nat.reduceLeDiff, Nat.reduceSub, Int.reduceToNat, Int.reduceLE, Int.reduceLT, Int.reduceEq, Int.reduceNe, Int.reduceAdd, Int.reduceSub, Int.reduceMul, Int.reduceNeg, UInt8.reduceToNat, decide_true, decide_false, decide_not, Int.cast_ofNat_Int, Int.natCast_add, Int.add_sub_cancel, Int.sub_add_cancel, Int.toNat_natCast, eq_self, not_true_eq_false, not_false_eq_true, hkd1]
    refine DR.way (pf := PF.none) [0,1,2,3,4,5,6,7,8,9,10,11,12,13,14,15,16,17,18,19,20] checked.mixed PF.none_ok (by kernel_rfl) ?_
    simp (dsimp := false) (implicitDefEqProofs := false) (maxSteps := 1000000) (disch := omega) only [go_sem, Nat.reduceAdd, Nat.reduceMul, Nat.reduceEqDiff, Nat.reduceBEq, cond_true, cond_false, Nat.reduceLT, Nat.reduceLeDiff, Nat.reduceSub, Int.reduceToNat, Int.reduceLE, Int.reduceLT, Int.reduceEq, Int.reduceNe, Int.reduceAdd, Int.reduceSub, Int.reduceMul, Int.reduceNeg, UInt8.reduceToNat, decide_true, decide_false, decide_not, Int.cast_ofNat_Int, Int.natCast_add, Int.add_sub_cancel, Int.sub_add_cancel, Int.toNat_natCast, eq_self, not_true_eq_false, not_false_eq_true, hM, hk1, hk2]
    refine O1_append (M := M.alloc (.cells (Tk.cells ⟨7, trimR [32, 9, 13] s.held.length s.held, s.beg, s.feeds⟩) 39 0 false)) (news := Tk.cells ⟨7, trimR [32, 9, 13] s.held.length s.held, s.beg, s.feeds⟩) (hT1 _) (tkCells_length _) q_app27_27 (by rw [news_slice, get_alloc rfl, newsO_fits (by simp [Tk.cells])]; rfl) (by omega) (by omega) (by omega) (by omega) ?_
    intro E M1 hE hG
    have hk5 := hG.same k (by rw [next_alloc]; omega) hkt
    rw [get_alloc' hk1, hM] at hk5
    simp (dsimp := false) (implicitDefEqProofs := false) (maxSteps := 1000000) (disch := omega) only [go_sem, Nat.reduceAdd, Nat.reduceMul, Nat.reduceEqDiff, Nat.reduceBEq, cond_true, cond_false, Nat.reduceLT, Nat.reduceLeDiff, Nat.reduceSub, Int.reduceToNat, Int.reduceLE, Int.reduceLT, Int.reduceEq, Int.reduceNe, Int.reduceAdd, Int.reduceSub, Int.reduceMul, Int.reduceNeg, UInt8.reduceToNat, decide_true, decide_false, decide_not, Int.cast_ofNat_Int, Int.natCast_add, Int.add_sub_cancel, Int.sub_add_cancel, Int.toNat_natCast, eq_self, not_true_eq_false, not_false_eq_true, Tk.cells] at hE
    simp (dsimp := false) (implicitDefEqProofs := false) (maxSteps := 1000000) (disch := omega) only [go_sem, Nat.reduceAdd, Nat.reduceMul, Nat.reduceEqDiff, Nat.reduceBEq, cond_true, cond_false, Nat.reduceLT, Nat.reduceLeDiff, Nat.reduceSub, Int.reduceToNat, Int.reduceLE, Int.reduceLT, Int.reduceEq, Int.reduceNe, Int.reduceAdd, Int.reduceSub, Int.reduceMul, Int.reduceNeg, UInt8.reduceToNat, decide_true, decide_false, decide_not, Int.cast_ofNat_Int, Int.natCast_add, Int.add_sub_cancel, Int.sub_add_cancel, Int.toNat_natCast, eq_self, not_true_eq_false, not_false_eq_true, hE, hk5]
    exact endAll (fin _ _ M1 hx hq hG)
  have hx : s.held = tellT s kd := by rw [tellT, if_neg (by omega)]
  simp (dsimp := false) (implicitDefEqProofs := false) (maxSteps := 1000000) (disch := omega) only [go_sem, Nat.reduceAdd, Nat.reduceMul, Nat.reduceEqDiff, Nat.reduceBEq, cond_true, cond_false, Nat.reduceLT, Nat.reduceLeDiff, Nat.reduceSub, Int.reduceToNat, Int.reduceLE, Int.reduceLT, Int.reduceEq, Int.reduceNe, Int.reduceAdd, Int.reduceSub, Int.reduceMul, Int.reduceNeg, UInt8.reduceToNat, decide_true, decide_false, decide_not, Int.cast_ofNat_Int, Int.natCast_add, Int.add_sub_cancel, Int.sub_add_cancel, Int.toNat_natCast, eq_self, not_true_eq_false, not_false_eq_true, hM]
  refine Br.of (fun h2 => ?_) (fun h2 => ?_)
  · simp (dsimp := false) (implicitDefEqProofs := false) (maxSteps := 1000000) (disch := omega) only [go_sem, Nat.reduceAdd, Nat.reduceMul, Nat.reduceEqDiff, Nat.reduceBEq, cond_true, cond_false, Nat.reduceLT, Nat.reduceLeDiff, Nat.reduceSub, Int.reduceToNat, Int.reduceLE, Int.reduceLT, Int.reduceEq, Int.reduceNe, Int.reduceAdd, Int.reduceSub, Int.reduceMul, Int.reduceNeg, UInt8.reduceToNat, decide_true, decide_false, decide_not, Int.cast_ofNat_Int, Int.natCast_add, Int.add_sub_cancel, Int.sub_add_cancel, Int.toNat_natCast, eq_self, not_true_eq_false, not_false_eq_true, h2]
    refine CF.same (isKey_same s.held) ?_
    simp (dsimp := false) (implicitDefEqProofs := false) (maxSteps := 1000000) (disch := omega) only [go_sem, Nat.reduceAdd, Nat.reduceMul, Nat.reduceEqDiff, Nat.reduceBEq, cond_true, cond_false, Nat.reduceLT, Nat.reduceLeDiff, Nat.reduceSub, Int.reduceToNat, Int.reduceLE, Int.reduceLT, Int.reduceEq, Int.reduceNe, Int.reduceAdd, Int.reduceSub, Int.reduceMul, Int.reduceNeg, UInt8.reduceToNat, decide_true, decide_false, decide_not, Int.cast_ofNat_Int, Int.natCast_add, Int.add_sub_cancel, Int.sub_add_cancel, Int.toNat_natCast, eq_self, not_true_eq_false, not_false_eq_true, h2]
    refine Br.of (fun h3 => ?_) (fun h3 => ?_)
    · have hq : 2 = tellK s kd := by rw [tellK, if_pos ⟨by omega, by rw [← hx]; exact h3⟩]
      simp (dsimp := false) (implicitDefEqProofs := false) (maxSteps := 1000000) (disch := omega) only [go_sem, Nat.reduceAdd, Nat.reduceMul, Nat.reduceEqDiff, Nat.reduceBEq, cond_true, cond_false, Nat.reduceLT, Nat.reduceLeDiff, Nat.reduceSub, Int.reduceToNat, Int.reduceLE, Int.reduceLT, Int.reduceEq, Int.reduceNe, Int.reduceAdd, Int.reduceSub, Int.reduceMul, Int.reduceNeg, UInt8.reduceToNat, decide_true, decide_false, decide_not, Int.cast_ofNat_Int, Int.natCast_add, Int.add_sub_cancel, Int.sub_add_cancel, Int.toNat_natCast, eq_self, not_true_eq_false, not_false_eq_true]
      refine DR.way (pf := PF.none) [0,1,2,3,4,5,6,7,8,9,10,11,12,13,14,15,16,17,18,19,20] checked.mixed PF.none_ok (by kernel_rfl) ?_
      simp (dsimp := false) (implicitDefEqProofs := false) (maxSteps := 1000000) (disch := omega) only [go_sem, Nat.reduceAdd, Nat.reduceMul, Nat.reduceEqDiff, Nat.reduceBEq, cond_true, cond_false, Nat.reduceLT, Nat.reduceLeDiff, Nat.reduceSub, Int.reduceToNat, Int.reduceLE, Int.reduceLT, Int.reduceEq, Int.reduceNe, Int.reduceAdd, Int.reduceSub, Int.reduceMul, Int.reduceNeg, UInt8.reduceToNat, decide_true, decide_false, decide_not, Int.cast_ofNat_Int, Int.natCast_add, Int.add_sub_cancel, Int.sub_add_cancel, Int.toNat_natCast, eq_self, not_true_eq_false, not_false_eq_true, hM, hk1, hk2]
      refine O1_append (M := M.alloc (.cells (Tk.cells ⟨2, s.held, s.beg, s.feeds⟩) 39 0 false)) (news := Tk.cells ⟨2, s.held, s.beg, s.feeds⟩) (hT1 _) (tkCells_length _) q_app27_27 (by rw [news_slice, get_alloc rfl, newsO_fits (by simp [Tk.cells])]; rfl) (by omega) (by omega) (by omega) (by omega) ?_
      intro E M1 hE hG
      have hk5 := hG.same k (by rw [next_alloc]; omega) hkt
      rw [get_alloc' hk1, hM] at hk5
      simp (dsimp := false) (implicitDefEqProofs := false) (maxSteps := 1000000) (disch := omega) only [go_sem, Nat.reduceAdd, Nat.reduceMul, Nat.reduceEqDiff, Nat.reduceBEq, cond_true, cond_false, Nat.reduceLT, Nat.reduceLeDiff, Nat.reduceSub, Int.reduceToNat, Int.reduceLE, Int.reduceLT, Int.reduceEq, Int.reduceNe, Int.reduceAdd, Int.reduceSub, Int.reduceMul, Int.reduceNeg, UInt8.reduceToNat, decide_true, decide_false, decide_not, Int.cast_ofNat_Int, Int.natCast_add, Int.add_sub_cancel, Int.sub_add_cancel, Int.toNat_natCast, eq_self, not_true_eq_false, not_false_eq_true, Tk.cells] at hE
      simp (dsimp := false) (implicitDefEqProofs := false) (maxSteps := 1000000) (disch := omega) only [go_sem, Nat.reduceAdd, Nat.reduceMul, Nat.reduceEqDiff, Nat.reduceBEq, cond_true, cond_false, Nat.reduceLT, Nat.reduceLeDiff, Nat.reduceSub, Int.reduceToNat, Int.reduceLE, Int.reduceLT, Int.reduceEq, Int.reduceNe, Int.reduceAdd, Int.reduceSub, Int.reduceMul, Int.reduceNeg, UInt8.reduceToNat, decide_true, decide_false, decide_not, Int.cast_ofNat_Int, Int.natCast_add, Int.add_sub_cancel, Int.sub_add_cancel, Int.toNat_natCast, eq_self, not_true_eq_false, not_false_eq_true, hE, hk5]
      exact endAll (fin _ _ M1 hx hq hG)
    · have hq : 1 = tellK s kd := by rw [tellK, if_neg (fun h => h3 (by rw [hx]; exact h.2))]; omega
      simp (dsimp := false) (implicitDefEqProofs := false) (maxSteps := 1000000) (disch := omega) only [go_sem, Nat.reduceAdd, Nat.reduceMul, Nat.reduceEqDiff, Nat.reduceBEq, cond_true, cond_false, Nat.reduceLT, Nat.reduceLeDiff, Nat.reduceSub, Int.reduceToNat, Int.reduceLE, Int.reduceLT, Int.reduceEq, Int.reduceNe, Int.reduceAdd, Int.reduceSub, Int.reduceMul, Int.reduceNeg, UInt8.reduceToNat, decide_true, decide_false, decide_not, Int.cast_ofNat_Int, Int.natCast_add, Int.add_sub_cancel, Int.sub_add_cancel, Int.toNat_natCast, eq_self, not_true_eq_false, not_false_eq_true]
      refine DR.way (pf := PF.none) [0,1,2,3,4,5,6,7,8,9,10,11,12,13,14,15,16,17,18,19,20] checked.mixed PF.none_ok (by kernel_rfl) ?_
      simp (dsimp := false) (implicitDefEqProofs := false) (maxSteps := 1000000) (disch := omega) only [go_sem, Nat.reduceAdd, Nat.reduceMul, Nat.reduceEqDiff, Nat.reduceBEq, cond_true, cond_false, Nat.reduceLT, Nat.reduceLeDiff, Nat.reduceSub, Int.reduceToNat, Int.reduceLE, Int.reduceLT, Int.reduceEq, Int.reduceNe, Int.reduceAdd, Int.reduceSub, Int.reduceMul, Int.reduceNeg, UInt8.reduceToNat, decide_true, decide_false, decide_not, Int.cast_ofNat_Int, Int.natCast_add, Int.add_sub_cancel, Int.sub_add_cancel, Int.toNat_natCast, eq_self, not_true_eq_false, not_false_eq_true, hM, hk1, hk2]
      refine O1_append (M := M.alloc (.cells (Tk.cells ⟨1, s.held, s.beg, s.feeds⟩) 39 0 false)) (news := Tk.cells ⟨1, s.held, s.beg, s.feeds⟩) (hT1 _) (tkCells_length _) q_app27_27 (by rw [news_slice, get_alloc rfl, newsO_fits (by simp [Tk.cells])]; rfl) (by omega) (by omega) (by omega) (by omega) ?_
      intro E M1 hE hG
      have hk5 := hG.same k (by rw [next_alloc]; omega) hkt
      rw [get_alloc' hk1, hM] at hk5
      simp (dsimp := false) (implicitDefEqProofs := false) (maxSteps := 1000000) (disch := omega) only [go_sem, Nat.reduceAdd, Nat.reduceMul, Nat.reduceEqDiff, Nat.reduceBEq, cond_true, cond_false, Nat.reduceLT, Nat.reduceLeDiff, Nat.reduceSub, Int.reduceToNat, Int.reduceLE, Int.reduceLT, Int.reduceEq, Int.reduceNe, Int.reduceAdd, Int.reduceSub, Int.reduceMul, Int.reduceNeg, UInt8.reduceToNat, decide_true, decide_false, decide_not, Int.cast_ofNat_Int, Int.natCast_add, Int.add_sub_cancel, Int.sub_add_cancel, Int.toNat_natCast, eq_self, not_true_eq_false, not_false_eq_true, Tk.cells] at hE
      simp (dsimp := false) (implicitDefEqProofs := false) (maxSteps := 1000000) (disch := omega) only [go_sem, Nat.reduceAdd, Nat.reduceMul, Nat.reduceEqDiff, Nat.reduceBEq, cond_true, cond_false, Nat.reduceLT, Nat.reduceLeDiff, Nat.reduceSub, Int.reduceToNat, Int.reduceLE, Int.reduceLT, Int.reduceEq, Int.reduceNe, Int.reduceAdd, Int.reduceSub, Int.reduceMul, Int.reduceNeg, UInt8.reduceToNat, decide_true, decide_false, decide_not, Int.cast_ofNat_Int, Int.natCast_add, Int.add_sub_cancel, Int.sub_add_cancel, Int.toNat_natCast, eq_self, not_true_eq_false, not_false_eq_true, hE, hk5]
      exact endAll (fin _ _ M1 hx hq hG)
  · have hq : kd = tellK s kd := by rw [tellK, if_neg (fun h => h2 (by omega))]
    simp (dsimp := false) (implicitDefEqProofs := false) (maxSteps := 1000000) (disch := omega) only [go_sem, Nat.reduceAdd, Nat.reduceMul, Nat.reduceEqDiff, Nat.reduceBEq, cond_true, cond_false, Nat.reduceLT, Nat.reduceLeDiff, Nat.reduceSub, Int.reduceToNat, Int.reduceLE, Int.reduceLT, Int.reduceEq, Int.reduceNe, Int.reduceAdd, Int.reduceSub, Int.reduceMul, Int.reduceNeg, UInt8.reduceToNat, decide_true, decide_false, decide_not, Int.cast_ofNat_Int, Int.natCast_add, Int.add_sub_cancel, Int.sub_add_cancel, Int.toNat_natCast, eq_self, not_true_eq_false, not_false_eq_true, h2]
    refine DR.way (pf := PF.none) [0,1,2,3,4,5,6,7,8,9,10,11,12,13,14,15,16,17,18,19,20] checked.mixed PF.none_ok (by kernel_rfl) ?_
    simp (dsimp := false) (implicitDefEqProofs := false) (maxSteps := 1000000) (disch := omega) only [go_sem, Nat.reduceAdd, Nat.reduceMul, Nat.reduceEqDiff, Nat.reduceBEq, cond_true, cond_false, Nat.reduceLT, Nat.reduceLeDiff, Nat.reduceSub, Int.reduceToNat, Int.reduceLE, Int.reduceLT, Int.reduceEq, Int.reduceNe, Int.reduceAdd, Int.reduceSub, Int.reduceMul, Int.reduceNeg, UInt8.reduceToNat, decide_true, decide_false, decide_not, Int.cast_ofNat_Int, Int.natCast_add, Int.add_sub_cancel, Int.sub_add_cancel, Int.toNat_natCast, eq_self, not_true_eq_false, not_false_eq_true, hM, hk1, hk2]
    refine O1_append (M := M.alloc (.cells (Tk.cells ⟨kd, s.held, s.beg, s.feeds⟩) 39 0 false)) (news := Tk.cells ⟨kd, s.held, s.beg, s.feeds⟩) (hT1 _) (tkCells_length _) q_app27_27 (by rw [news_slice, get_alloc rfl, newsO_fits (by simp [Tk.cells])]; rfl) (by omega) (by omega) (by omega) (by omega) ?_
    intro E M1 hE hG
    have hk5 := hG.same k (by rw [next_alloc]; omega) hkt
    rw [get_alloc' hk1, hM] at hk5
    simp (dsimp := false) (implicitDefEqProofs := false) (maxSteps := 1000000) (disch := omega) only [go_sem, Nat.reduceAdd, Nat.reduceMul, Nat.reduceEqDiff, Nat.reduceBEq, cond_true, cond_false, Nat.reduceLT, Nat.reduceLeDiff, Nat.reduceSub, Int.reduceToNat, Int.reduceLE, Int.reduceLT, Int.reduceEq, Int.reduceNe, Int.reduceAdd, Int.reduceSub, Int.reduceMul, Int.reduceNeg, UInt8.reduceToNat, decide_true, decide_false, decide_not, Int.cast_ofNat_Int, Int.natCast_add, Int.add_sub_cancel, Int.sub_add_cancel, Int.toNat_natCast, eq_self, not_true_eq_false, not_false_eq_true, Tk.cells] at hE
    simp (dsimp := false) (implicitDefEqProofs := false) (maxSteps := 1000000) (disch := omega) only [go_sem, Nat.reduceAdd, Nat.reduceMul, Nat.reduceEqDiff, Nat.reduceBEq, cond_true, cond_false, Nat.reduceLT, Nat.reduceLeDiff, Nat.reduceSub, Int.reduceToNat, Int.reduceLE, Int.reduceLT, Int.reduceEq, Int.reduceNe, Int.reduceAdd, Int.reduceSub, Int.reduceMul, Int.reduceNeg, UInt8.reduceToNat, decide_true, decide_false, decide_not, Int.cast_ofNat_Int, Int.natCast_add, Int.add_sub_cancel, Int.sub_add_cancel, Int.toNat_natCast, eq_self, not_true_eq_false, not_false_eq_true, hE, hk5]
    exact endAll (fin _ _ M1 hx hq hG)
end Go.Proofs.Tryd
