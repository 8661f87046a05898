/-
  Walks of the seat of LexCuts, part 18: the lexer between tokens.
-/
import Derived.Test.YtpljlblmagodlaaDoorW17
set_option linter.unusedVariables false
set_option linter.unusedSimpArgs false
set_option linter.unusedSimpArgs false
set_option maxRecDepth 100000
set_option maxHeartbeats 4000000
namespace Go.Proofs.Tryd
open Go Go.AL
theorem WF.set {M : Mem} (h : WF M) {k : Nat} {a : AObj} (hk : k < M.next) : WF (M.set k a) := fun j hj => by
  rw [next_set] at hj
  rw [get_set' (by omega)]; exact h j hj
theorem WF.alloc {M : Mem} (h : WF M) {a : AObj} : WF (M.alloc a) := fun j hj => by
  rw [next_alloc] at hj
  rw [get_alloc' (by omega)]; exact h j (by omega)
theorem lexGrow {M M1 : Mem} {k n m : Nat} {F : Nat → Prop} {hk tk : Option Nat} {s : LexS} {C : AObj} {b : List UInt8} (hw : WF M) (hM : M.get k = some (.cells (lexCells (sl hk n) (sl tk m) s) 44 0 false)) (hH : Row M hk (bcs s.held) 5)
    (hT : Row M tk (tkCells s.toks) 39) (hF : ∀ j, F j ↔ j = k ∨ some j = hk ∨ some j = tk) (hG : Grown (M.set k C) hk (bcs s.held ++ bcs b) 5 M1) (s2 : LexS) (e1 : s2.held = s.held ++ b) (e2 : s2.toks = s.toks) (n2 : Nat) (hn : n2 = s2.held.length) (u : Value) :
    LexTo k F M u s2 u (M1.set k (.cells (lexCells (sl (some M.next) n2) (sl tk s2.toks.length) s2) 44 0 false)) := by
  subst hn
  have hkl := hw.lt hM
  have hkh : hk ≠ some k := hH.ne hM (by decide)
  have hkt : tk ≠ some k := hT.ne hM (by decide)
  have hw1 : WF (M.set k C) := WF.set hw hkl
  refine ⟨rfl, fun j => j = k ∨ j = M.next ∨ some j = tk, ⟨some M.next, tk, get_set, ?_, ?_, fun j => by simp⟩, ?_⟩
  · show (M1.set k _).get M.next = _
    rw [get_set' (by omega), e1, ← bcs_append]
    exact hG.get
  · rw [e2]
    refine hT.keep fun j ob h1 h2 => ?_
    rw [get_set' (by rintro rfl; exact hkt h1), hG.same j (by rw [next_set]; have := hw.lt h2; omega) (hH.ne2 hT (by decide) · h1), get_set' (by rintro rfl; exact hkt h1)]
    exact h2
  · have h1 := (hG.own hw1).more (H := F) fun j e => (hF j).2 (.inr (.inl e.symm))
    have h2 : Own M (M.set k C) F F := .st hw (.inl ((hF k).2 (.inl rfl))) (.refl M F)
    refine (Own.st hw (.inl ((hF k).2 (.inl rfl))) (h2.trans hw h1)).to fun j hj => ?_
    rcases hj with rfl | rfl | e
    · exact .inl ((hF _).2 (.inl rfl))
    · exact .inr (Nat.le_refl _)
    · exact .inl ((hF j).2 (.inr (.inr e)))
def LexS.go (s : LexS) (st : Nat) (b : List UInt8) : LexS := { s with state := st, beg := s.here, held := s.held ++ b }
def LexS.first (s : LexS) (p : Nat) (b : List UInt8) (good : Bool) : LexS :=
  if p = 10 then { s with feeds := s.feeds + 1 }
  else if p = 32 ∨ p = 9 ∨ p = 13 then s
  else if good = true ∧ inTab letterT p = true then s.go 1 b
  else if 48 ≤ p ∧ p ≤ 57 then s.go 2 b
  else if p = 34 then s.go 3 b
  else if p = 39 then s.go 4 b
  else if p = 123 then s.go 7 b
  else if sign b 0 ≠ [] then s.go 8 b
  else s.fail 100 s.here
theorem first_walk (k p : Nat) (b : List UInt8) (good : Bool) (s : LexS) (F : Nat → Prop) (G : Nat) (M : Mem) (hGl : Glob G M) (hL : LexAt M k F s) (hb : 0 < b.length) (hb2 : b.length < 1000) (hh : s.held.length < 100000) (hp : p < 1114112) (hf : s.feeds < 1000000000) :
    ACalls prog G 51 [lp k, .int .i32 p, .string (bs b), .bool good] M (LexTo k F M (.tuple #[]) (s.first p b good)) := by
  have hL' := hL
  obtain ⟨hk, tk, hM, hH, hT, hF⟩ := hL
  refine ACalls.walk (N := 96) (rs := []) func51 rfl rfl (by kernel_rfl) (by kernel_rfl) fun hw => ?_
  have hkl := hw.lt hM
  have hk1 : k ≠ M.next := by omega
  have hkh : hk ≠ some k := hH.ne hM (by decide)
  have hM' := hM
  simp only [lexCells] at hM
  have hH1 : ∀ C, Row (M.set k C) hk (bcs s.held) 5 := fun C => hH.keep fun j ob h1 h2 => by rw [get_set' (by rintro rfl; exact hkh h1)]; exact h2
  have Fk := (hF k).2 (.inl rfl)
  simp (dsimp := false) (implicitDefEqProofs := false) (maxSteps := 1000000) (disch := omega) only [go_sem, Nat.reduceAdd, Nat.reduceMul, Nat.reduceEqDiff, Nat.reduceBEq, cond_true, cond_false, Nat.reduceLT, Nat.reduceLeDiff, Nat.reduceSub, Int.reduceToNat, Int.reduceLE, Int.reduceLT, Int.reduceEq, Int.reduceNe, Int.reduceAdd, Int.reduceSub, Int.reduceMul, Int.reduceNeg, UInt8.reduceToNat, decide_true, decide_false, decide_not, Int.cast_ofNat_Int, Int.natCast_add, Int.add_sub_cancel, Int.sub_add_cancel, Int.toNat_natCast, eq_self, not_true_eq_false, not_false_eq_true, hM]
  refine Br.of (fun h1 => ?_) (fun h1 => ?_)
  · simp (dsimp := false) (implicitDefEqProofs := false) (maxSteps := 1000000) (disch := omega) only [go_sem, Nat.reduceAdd, Nat.reduceMul, Nat.reduceEqDiff, Nat.reduceBEq, cond_true, cond_false, Nat.reduceLT, Nat.reduceLeDiff, Nat.reduceSub, Int.reduceToNat, Int.reduceLE, Int.reduceLT, Int.reduceEq, Int.reduceNe, Int.reduceAdd, Int.reduceSub, Int.reduceMul, Int.reduceNeg, UInt8.reduceToNat, decide_true, decide_false, decide_not, Int.cast_ofNat_Int, Int.natCast_add, Int.add_sub_cancel, Int.sub_add_cancel, Int.toNat_natCast, eq_self, not_true_eq_false, not_false_eq_true, hM]
    exact endAll ⟨rfl, F, by rw [LexS.first, if_pos (by omega)]; exact lexPut (s' := { s with feeds := s.feeds + 1 }) hM' hH hT hF rfl rfl, .st hw (.inl Fk) (.refl M F)⟩
  simp (dsimp := false) (implicitDefEqProofs := false) (maxSteps := 1000000) (disch := omega) only [go_sem, Nat.reduceAdd, Nat.reduceMul, Nat.reduceEqDiff, Nat.reduceBEq, cond_true, cond_false, Nat.reduceLT, Nat.reduceLeDiff, Nat.reduceSub, Int.reduceToNat, Int.reduceLE, Int.reduceLT, Int.reduceEq, Int.reduceNe, Int.reduceAdd, Int.reduceSub, Int.reduceMul, Int.reduceNeg, UInt8.reduceToNat, decide_true, decide_false, decide_not, Int.cast_ofNat_Int, Int.natCast_add, Int.add_sub_cancel, Int.sub_add_cancel, Int.toNat_natCast, eq_self, not_true_eq_false, not_false_eq_true]
  refine Br.of (fun h2 => ?_) (fun h2 => ?_)
  · simp (dsimp := false) (implicitDefEqProofs := false) (maxSteps := 1000000) (disch := omega) only [go_sem, Nat.reduceAdd, Nat.reduceMul, Nat.reduceEqDiff, Nat.reduceBEq, cond_true, cond_false, Nat.reduceLT, Nat.reduceLeDiff, Nat.reduceSub, Int.reduceToNat, Int.reduceLE, Int.reduceLT, Int.reduceEq, Int.reduceNe, Int.reduceAdd, Int.reduceSub, Int.reduceMul, Int.reduceNeg, UInt8.reduceToNat, decide_true, decide_false, decide_not, Int.cast_ofNat_Int, Int.natCast_add, Int.add_sub_cancel, Int.sub_add_cancel, Int.toNat_natCast, eq_self, not_true_eq_false, not_false_eq_true, h2]
    exact endAll ⟨rfl, F, by rw [LexS.first, if_neg (by omega), if_pos (by omega)]; exact hL', .refl M F⟩
  simp (dsimp := false) (implicitDefEqProofs := false) (maxSteps := 1000000) (disch := omega) only [go_sem, Nat.reduceAdd, Nat.reduceMul, Nat.reduceEqDiff, Nat.reduceBEq, cond_true, cond_false, Nat.reduceLT, Nat.reduceLeDiff, Nat.reduceSub, Int.reduceToNat, Int.reduceLE, Int.reduceLT, Int.reduceEq, Int.reduceNe, Int.reduceAdd, Int.reduceSub, Int.reduceMul, Int.reduceNeg, UInt8.reduceToNat, decide_true, decide_false, decide_not, Int.cast_ofNat_Int, Int.natCast_add, Int.add_sub_cancel, Int.sub_add_cancel, Int.toNat_natCast, eq_self, not_true_eq_false, not_false_eq_true, h2]
  refine Br.of (fun h3 => ?_) (fun h3 => ?_)
  · simp (dsimp := false) (implicitDefEqProofs := false) (maxSteps := 1000000) (disch := omega) only [go_sem, Nat.reduceAdd, Nat.reduceMul, Nat.reduceEqDiff, Nat.reduceBEq, cond_true, cond_false, Nat.reduceLT, Nat.reduceLeDiff, Nat.reduceSub, Int.reduceToNat, Int.reduceLE, Int.reduceLT, Int.reduceEq, Int.reduceNe, Int.reduceAdd, Int.reduceSub, Int.reduceMul, Int.reduceNeg, UInt8.reduceToNat, decide_true, decide_false, decide_not, Int.cast_ofNat_Int, Int.natCast_add, Int.add_sub_cancel, Int.sub_add_cancel, Int.toNat_natCast, eq_self, not_true_eq_false, not_false_eq_true, h2, h3]
    exact endAll ⟨rfl, F, by rw [LexS.first, if_neg (by omega), if_pos (by omega)]; exact hL', .refl M F⟩
  simp (dsimp := false) (implicitDefEqProofs := false) (maxSteps := 1000000) (disch := omega) only [go_sem, Nat.reduceAdd, Nat.reduceMul, Nat.reduceEqDiff, Nat.reduceBEq, cond_true, cond_false, Nat.reduceLT, Nat.reduceLeDiff, Nat.reduceSub, Int.reduceToNat, Int.reduceLE, Int.reduceLT, Int.reduceEq, Int.reduceNe, Int.reduceAdd, Int.reduceSub, Int.reduceMul, Int.reduceNeg, UInt8.reduceToNat, decide_true, decide_false, decide_not, Int.cast_ofNat_Int, Int.natCast_add, Int.add_sub_cancel, Int.sub_add_cancel, Int.toNat_natCast, eq_self, not_true_eq_false, not_false_eq_true, h2, h3]
  refine Br.of (fun h4 => ?_) (fun h4 => ?_)
  · simp (dsimp := false) (implicitDefEqProofs := false) (maxSteps := 1000000) (disch := omega) only [go_sem, Nat.reduceAdd, Nat.reduceMul, Nat.reduceEqDiff, Nat.reduceBEq, cond_true, cond_false, Nat.reduceLT, Nat.reduceLeDiff, Nat.reduceSub, Int.reduceToNat, Int.reduceLE, Int.reduceLT, Int.reduceEq, Int.reduceNe, Int.reduceAdd, Int.reduceSub, Int.reduceMul, Int.reduceNeg, UInt8.reduceToNat, decide_true, decide_false, decide_not, Int.cast_ofNat_Int, Int.natCast_add, Int.add_sub_cancel, Int.sub_add_cancel, Int.toNat_natCast, eq_self, not_true_eq_false, not_false_eq_true, h2, h3, h4]
    exact endAll ⟨rfl, F, by rw [LexS.first, if_neg (by omega), if_pos (by omega)]; exact hL', .refl M F⟩
  simp (dsimp := false) (implicitDefEqProofs := false) (maxSteps := 1000000) (disch := omega) only [go_sem, Nat.reduceAdd, Nat.reduceMul, Nat.reduceEqDiff, Nat.reduceBEq, cond_true, cond_false, Nat.reduceLT, Nat.reduceLeDiff, Nat.reduceSub, Int.reduceToNat, Int.reduceLE, Int.reduceLT, Int.reduceEq, Int.reduceNe, Int.reduceAdd, Int.reduceSub, Int.reduceMul, Int.reduceNeg, UInt8.reduceToNat, decide_true, decide_false, decide_not, Int.cast_ofNat_Int, Int.natCast_add, Int.add_sub_cancel, Int.sub_add_cancel, Int.toNat_natCast, eq_self, not_true_eq_false, not_false_eq_true, h2, h3, h4]
  have hq : s.first p b good = if good = true ∧ inTab letterT p = true then s.go 1 b
      else if 48 ≤ p ∧ p ≤ 57 then s.go 2 b
      else if p = 34 then s.go 3 b
      else if p = 39 then s.go 4 b
      else if p = 123 then s.go 7 b
      else if sign b 0 ≠ [] then s.go 8 b
      else s.fail 100 s.here := by rw [LexS.first, if_neg (by omega), if_neg (by omega)]
  generalize s.first p b good = X at hq ⊢
  refine Br.mk (fun h5 => ?_) (fun h5 => ?_)
  rotate_left
  have hN : ¬ (good = true ∧ inTab letterT p = true) := fun h => by rw [h5] at h; exact absurd h.1 (by simp)
  rotate_left
  simp (dsimp := false) (implicitDefEqProofs := false) (maxSteps := 1000000) (disch := omega) only [go_sem, Nat.reduceAdd, Nat.reduceMul, Nat.reduceEqDiff, Nat.reduceBEq, cond_true, cond_false, Nat.reduceLT, Nat.reduceLeDiff, Nat.reduceSub, Int.reduceToNat, Int.reduceLE, Int.reduceLT, Int.reduceEq, Int.reduceNe, Int.reduceAdd, Int.reduceSub, Int.reduceMul, Int.reduceNeg, UInt8.reduceToNat, decide_true, decide_false, decide_not, Int.cast_ofNat_Int, Int.natCast_add, Int.add_sub_cancel, Int.sub_add_cancel, Int.toNat_natCast, eq_self, not_true_eq_false, not_false_eq_true, h5]
  refine CF.at ((letter_walk p G M hGl).callF func39 rfl rfl) ?_
  simp (dsimp := false) (implicitDefEqProofs := false) (maxSteps := 1000000) (disch := omega) only [go_sem, Nat.reduceAdd, Nat.reduceMul, Nat.reduceEqDiff, Nat.reduceBEq, cond_true, cond_false, Nat.reduceLT, Nat.reduceLeDiff, Nat.reduceSub, Int.reduceToNat, Int.reduceLE, Int.reduceLT, Int.reduceEq, Int.reduceNe, Int.reduceAdd, Int.reduceSub, Int.reduceMul, Int.reduceNeg, UInt8.reduceToNat, decide_true, decide_false, decide_not, Int.cast_ofNat_Int, Int.natCast_add, Int.add_sub_cancel, Int.sub_add_cancel, Int.toNat_natCast, eq_self, not_true_eq_false, not_false_eq_true, h5]
  refine Br.mk (fun h6 => ?_) (fun h6 => ?_)
  · simp (dsimp := false) (implicitDefEqProofs := false) (maxSteps := 1000000) (disch := omega) only [go_sem, Nat.reduceAdd, Nat.reduceMul, Nat.reduceEqDiff, Nat.reduceBEq, cond_true, cond_false, Nat.reduceLT, Nat.reduceLeDiff, Nat.reduceSub, Int.reduceToNat, Int.reduceLE, Int.reduceLT, Int.reduceEq, Int.reduceNe, Int.reduceAdd, Int.reduceSub, Int.reduceMul, Int.reduceNeg, UInt8.reduceToNat, decide_true, decide_false, decide_not, Int.cast_ofNat_Int, Int.natCast_add, Int.add_sub_cancel, Int.sub_add_cancel, Int.toNat_natCast, eq_self, not_true_eq_false, not_false_eq_true, hM]
    refine O1_append (M := M.set k _) (hH1 _) (by rw [bcs_length, Nat.mul_one]) q_app42_9 (by rw [news_string, if_pos rfl]) hb (by omega) (by omega) (by omega) ?_
    intro E M1 hE hG
    have hk3 := hG.same k (by rw [next_set]; exact hk1) hkh
    rw [get_set] at hk3
    simp (dsimp := false) (implicitDefEqProofs := false) (maxSteps := 1000000) (disch := omega) only [go_sem, Nat.reduceAdd, Nat.reduceMul, Nat.reduceEqDiff, Nat.reduceBEq, cond_true, cond_false, Nat.reduceLT, Nat.reduceLeDiff, Nat.reduceSub, Int.reduceToNat, Int.reduceLE, Int.reduceLT, Int.reduceEq, Int.reduceNe, Int.reduceAdd, Int.reduceSub, Int.reduceMul, Int.reduceNeg, UInt8.reduceToNat, decide_true, decide_false, decide_not, Int.cast_ofNat_Int, Int.natCast_add, Int.add_sub_cancel, Int.sub_add_cancel, Int.toNat_natCast, eq_self, not_true_eq_false, not_false_eq_true, hE, hk3]
    rw [if_pos ⟨h5, h6⟩] at hq
    rw [hq]
    exact endAll (lexGrow hw hM' hH hT hF hG (s.go 1 b) rfl rfl _ (by simp [LexS.go]) _)
  have hN : ¬ (good = true ∧ inTab letterT p = true) := fun h => by rw [h6] at h; exact absurd h.2 (by simp)
  all_goals
    rw [if_neg hN] at hq
    simp (dsimp := false) (implicitDefEqProofs := false) (maxSteps := 1000000) (disch := omega) only [go_sem, Nat.reduceAdd, Nat.reduceMul, Nat.reduceEqDiff, Nat.reduceBEq, cond_true, cond_false, Nat.reduceLT, Nat.reduceLeDiff, Nat.reduceSub, Int.reduceToNat, Int.reduceLE, Int.reduceLT, Int.reduceEq, Int.reduceNe, Int.reduceAdd, Int.reduceSub, Int.reduceMul, Int.reduceNeg, UInt8.reduceToNat, decide_true, decide_false, decide_not, Int.cast_ofNat_Int, Int.natCast_add, Int.add_sub_cancel, Int.sub_add_cancel, Int.toNat_natCast, eq_self, not_true_eq_false, not_false_eq_true, h5]
    refine Br.of (fun h7 => ?_) (fun h7 => ?_)
    rotate_left
    have hD : ¬ (48 ≤ p ∧ p ≤ 57) := by omega
    rotate_left
    simp (dsimp := false) (implicitDefEqProofs := false) (maxSteps := 1000000) (disch := omega) only [go_sem, Nat.reduceAdd, Nat.reduceMul, Nat.reduceEqDiff, Nat.reduceBEq, cond_true, cond_false, Nat.reduceLT, Nat.reduceLeDiff, Nat.reduceSub, Int.reduceToNat, Int.reduceLE, Int.reduceLT, Int.reduceEq, Int.reduceNe, Int.reduceAdd, Int.reduceSub, Int.reduceMul, Int.reduceNeg, UInt8.reduceToNat, decide_true, decide_false, decide_not, Int.cast_ofNat_Int, Int.natCast_add, Int.add_sub_cancel, Int.sub_add_cancel, Int.toNat_natCast, eq_self, not_true_eq_false, not_false_eq_true, h7]
    refine Br.of (fun h8 => ?_) (fun h8 => ?_)
    · simp (dsimp := false) (implicitDefEqProofs := false) (maxSteps := 1000000) (disch := omega) only [go_sem, Nat.reduceAdd, Nat.reduceMul, Nat.reduceEqDiff, Nat.reduceBEq, cond_true, cond_false, Nat.reduceLT, Nat.reduceLeDiff, Nat.reduceSub, Int.reduceToNat, Int.reduceLE, Int.reduceLT, Int.reduceEq, Int.reduceNe, Int.reduceAdd, Int.reduceSub, Int.reduceMul, Int.reduceNeg, UInt8.reduceToNat, decide_true, decide_false, decide_not, Int.cast_ofNat_Int, Int.natCast_add, Int.add_sub_cancel, Int.sub_add_cancel, Int.toNat_natCast, eq_self, not_true_eq_false, not_false_eq_true, hM]
      refine O1_append (M := M.set k _) (hH1 _) (by rw [bcs_length, Nat.mul_one]) q_app42_9 (by rw [news_string, if_pos rfl]) hb (by omega) (by omega) (by omega) ?_
      intro E M1 hE hG
      have hk3 := hG.same k (by rw [next_set]; exact hk1) hkh
      rw [get_set] at hk3
      simp (dsimp := false) (implicitDefEqProofs := false) (maxSteps := 1000000) (disch := omega) only [go_sem, Nat.reduceAdd, Nat.reduceMul, Nat.reduceEqDiff, Nat.reduceBEq, cond_true, cond_false, Nat.reduceLT, Nat.reduceLeDiff, Nat.reduceSub, Int.reduceToNat, Int.reduceLE, Int.reduceLT, Int.reduceEq, Int.reduceNe, Int.reduceAdd, Int.reduceSub, Int.reduceMul, Int.reduceNeg, UInt8.reduceToNat, decide_true, decide_false, decide_not, Int.cast_ofNat_Int, Int.natCast_add, Int.add_sub_cancel, Int.sub_add_cancel, Int.toNat_natCast, eq_self, not_true_eq_false, not_false_eq_true, hE, hk3]
      rw [if_pos (by omega)] at hq
      rw [hq]
      exact endAll (lexGrow hw hM' hH hT hF hG (s.go 2 b) rfl rfl _ (by simp [LexS.go]) _)
    have hD : ¬ (48 ≤ p ∧ p ≤ 57) := by omega
    all_goals
      rw [if_neg hD] at hq
      simp (dsimp := false) (implicitDefEqProofs := false) (maxSteps := 1000000) (disch := omega) only [go_sem, Nat.reduceAdd, Nat.reduceMul, Nat.reduceEqDiff, Nat.reduceBEq, cond_true, cond_false, Nat.reduceLT, Nat.reduceLeDiff, Nat.reduceSub, Int.reduceToNat, Int.reduceLE, Int.reduceLT, Int.reduceEq, Int.reduceNe, Int.reduceAdd, Int.reduceSub, Int.reduceMul, Int.reduceNeg, UInt8.reduceToNat, decide_true, decide_false, decide_not, Int.cast_ofNat_Int, Int.natCast_add, Int.add_sub_cancel, Int.sub_add_cancel, Int.toNat_natCast, eq_self, not_true_eq_false, not_false_eq_true, h7]
      refine Br.of (fun h9 => ?_) (fun h9 => ?_)
      · simp (dsimp := false) (implicitDefEqProofs := false) (maxSteps := 1000000) (disch := omega) only [go_sem, Nat.reduceAdd, Nat.reduceMul, Nat.reduceEqDiff, Nat.reduceBEq, cond_true, cond_false, Nat.reduceLT, Nat.reduceLeDiff, Nat.reduceSub, Int.reduceToNat, Int.reduceLE, Int.reduceLT, Int.reduceEq, Int.reduceNe, Int.reduceAdd, Int.reduceSub, Int.reduceMul, Int.reduceNeg, UInt8.reduceToNat, decide_true, decide_false, decide_not, Int.cast_ofNat_Int, Int.natCast_add, Int.add_sub_cancel, Int.sub_add_cancel, Int.toNat_natCast, eq_self, not_true_eq_false, not_false_eq_true, hM]
        refine O1_append (M := M.set k _) (hH1 _) (by rw [bcs_length, Nat.mul_one]) q_app42_9 (by rw [news_string, if_pos rfl]) hb (by omega) (by omega) (by omega) ?_
        intro E M1 hE hG
        have hk3 := hG.same k (by rw [next_set]; exact hk1) hkh
        rw [get_set] at hk3
        simp (dsimp := false) (implicitDefEqProofs := false) (maxSteps := 1000000) (disch := omega) only [go_sem, Nat.reduceAdd, Nat.reduceMul, Nat.reduceEqDiff, Nat.reduceBEq, cond_true, cond_false, Nat.reduceLT, Nat.reduceLeDiff, Nat.reduceSub, Int.reduceToNat, Int.reduceLE, Int.reduceLT, Int.reduceEq, Int.reduceNe, Int.reduceAdd, Int.reduceSub, Int.reduceMul, Int.reduceNeg, UInt8.reduceToNat, decide_true, decide_false, decide_not, Int.cast_ofNat_Int, Int.natCast_add, Int.add_sub_cancel, Int.sub_add_cancel, Int.toNat_natCast, eq_self, not_true_eq_false, not_false_eq_true, hE, hk3]
        rw [if_pos (by omega)] at hq
        rw [hq]
        exact endAll (lexGrow hw hM' hH hT hF hG (s.go 3 b) rfl rfl _ (by simp [LexS.go]) _)
      rw [if_neg (by omega)] at hq
      simp (dsimp := false) (implicitDefEqProofs := false) (maxSteps := 1000000) (disch := omega) only [go_sem, Nat.reduceAdd, Nat.reduceMul, Nat.reduceEqDiff, Nat.reduceBEq, cond_true, cond_false, Nat.reduceLT, Nat.reduceLeDiff, Nat.reduceSub, Int.reduceToNat, Int.reduceLE, Int.reduceLT, Int.reduceEq, Int.reduceNe, Int.reduceAdd, Int.reduceSub, Int.reduceMul, Int.reduceNeg, UInt8.reduceToNat, decide_true, decide_false, decide_not, Int.cast_ofNat_Int, Int.natCast_add, Int.add_sub_cancel, Int.sub_add_cancel, Int.toNat_natCast, eq_self, not_true_eq_false, not_false_eq_true]
      refine Br.of (fun h10 => ?_) (fun h10 => ?_)
      · simp (dsimp := false) (implicitDefEqProofs := false) (maxSteps := 1000000) (disch := omega) only [go_sem, Nat.reduceAdd, Nat.reduceMul, Nat.reduceEqDiff, Nat.reduceBEq, cond_true, cond_false, Nat.reduceLT, Nat.reduceLeDiff, Nat.reduceSub, Int.reduceToNat, Int.reduceLE, Int.reduceLT, Int.reduceEq, Int.reduceNe, Int.reduceAdd, Int.reduceSub, Int.reduceMul, Int.reduceNeg, UInt8.reduceToNat, decide_true, decide_false, decide_not, Int.cast_ofNat_Int, Int.natCast_add, Int.add_sub_cancel, Int.sub_add_cancel, Int.toNat_natCast, eq_self, not_true_eq_false, not_false_eq_true, hM]
        refine O1_append (M := M.set k _) (hH1 _) (by rw [bcs_length, Nat.mul_one]) q_app42_9 (by rw [news_string, if_pos rfl]) hb (by omega) (by omega) (by omega) ?_
        intro E M1 hE hG
        have hk3 := hG.same k (by rw [next_set]; exact hk1) hkh
        rw [get_set] at hk3
        simp (dsimp := false) (implicitDefEqProofs := false) (maxSteps := 1000000) (disch := omega) only [go_sem, Nat.reduceAdd, Nat.reduceMul, Nat.reduceEqDiff, Nat.reduceBEq, cond_true, cond_false, Nat.reduceLT, Nat.reduceLeDiff, Nat.reduceSub, Int.reduceToNat, Int.reduceLE, Int.reduceLT, Int.reduceEq, Int.reduceNe, Int.reduceAdd, Int.reduceSub, Int.reduceMul, Int.reduceNeg, UInt8.reduceToNat, decide_true, decide_false, decide_not, Int.cast_ofNat_Int, Int.natCast_add, Int.add_sub_cancel, Int.sub_add_cancel, Int.toNat_natCast, eq_self, not_true_eq_false, not_false_eq_true, hE, hk3]
        rw [if_pos (by omega)] at hq
        rw [hq]
        exact endAll (lexGrow hw hM' hH hT hF hG (s.go 4 b) rfl rfl _ (by simp [LexS.go]) _)
      rw [if_neg (by omega)] at hq
      simp (dsimp := false) (implicitDefEqProofs := false) (maxSteps := 1000000) (disch := omega) only [go_sem, Nat.reduceAdd, Nat.reduceMul, Nat.reduceEqDiff, Nat.reduceBEq, cond_true, cond_false, Nat.reduceLT, Nat.reduceLeDiff, Nat.reduceSub, Int.reduceToNat, Int.reduceLE, Int.reduceLT, Int.reduceEq, Int.reduceNe, Int.reduceAdd, Int.reduceSub, Int.reduceMul, Int.reduceNeg, UInt8.reduceToNat, decide_true, decide_false, decide_not, Int.cast_ofNat_Int, Int.natCast_add, Int.add_sub_cancel, Int.sub_add_cancel, Int.toNat_natCast, eq_self, not_true_eq_false, not_false_eq_true]
      refine Br.of (fun h11 => ?_) (fun h11 => ?_)
      · simp (dsimp := false) (implicitDefEqProofs := false) (maxSteps := 1000000) (disch := omega) only [go_sem, Nat.reduceAdd, Nat.reduceMul, Nat.reduceEqDiff, Nat.reduceBEq, cond_true, cond_false, Nat.reduceLT, Nat.reduceLeDiff, Nat.reduceSub, Int.reduceToNat, Int.reduceLE, Int.reduceLT, Int.reduceEq, Int.reduceNe, Int.reduceAdd, Int.reduceSub, Int.reduceMul, Int.reduceNeg, UInt8.reduceToNat, decide_true, decide_false, decide_not, Int.cast_ofNat_Int, Int.natCast_add, Int.add_sub_cancel, Int.sub_add_cancel, Int.toNat_natCast, eq_self, not_true_eq_false, not_false_eq_true, hM]
        refine O1_append (M := M.set k _) (hH1 _) (by rw [bcs_length, Nat.mul_one]) q_app42_9 (by rw [news_string, if_pos rfl]) hb (by omega) (by omega) (by omega) ?_
        intro E M1 hE hG
        have hk3 := hG.same k (by rw [next_set]; exact hk1) hkh
        rw [get_set] at hk3
        simp (dsimp := false) (implicitDefEqProofs := false) (maxSteps := 1000000) (disch := omega) only [go_sem, Nat.reduceAdd, Nat.reduceMul, Nat.reduceEqDiff, Nat.reduceBEq, cond_true, cond_false, Nat.reduceLT, Nat.reduceLeDiff, Nat.reduceSub, Int.reduceToNat, Int.reduceLE, Int.reduceLT, Int.reduceEq, Int.reduceNe, Int.reduceAdd, Int.reduceSub, Int.reduceMul, Int.reduceNeg, UInt8.reduceToNat, decide_true, decide_false, decide_not, Int.cast_ofNat_Int, Int.natCast_add, Int.add_sub_cancel, Int.sub_add_cancel, Int.toNat_natCast, eq_self, not_true_eq_false, not_false_eq_true, hE, hk3]
        rw [if_pos (by omega)] at hq
        rw [hq]
        exact endAll (lexGrow hw hM' hH hT hF hG (s.go 7 b) rfl rfl _ (by simp [LexS.go]) _)
      rw [if_neg (by omega)] at hq
      simp (dsimp := false) (implicitDefEqProofs := false) (maxSteps := 1000000) (disch := omega) only [go_sem, Nat.reduceAdd, Nat.reduceMul, Nat.reduceEqDiff, Nat.reduceBEq, cond_true, cond_false, Nat.reduceLT, Nat.reduceLeDiff, Nat.reduceSub, Int.reduceToNat, Int.reduceLE, Int.reduceLT, Int.reduceEq, Int.reduceNe, Int.reduceAdd, Int.reduceSub, Int.reduceMul, Int.reduceNeg, UInt8.reduceToNat, decide_true, decide_false, decide_not, Int.cast_ofNat_Int, Int.natCast_add, Int.add_sub_cancel, Int.sub_add_cancel, Int.toNat_natCast, eq_self, not_true_eq_false, not_false_eq_true]
      refine CF.same (sign_same b 0 (by omega)) ?_
      simp (dsimp := false) (implicitDefEqProofs := false) (maxSteps := 1000000) (disch := omega) only [go_sem, Nat.reduceAdd, Nat.reduceMul, Nat.reduceEqDiff, Nat.reduceBEq, cond_true, cond_false, Nat.reduceLT, Nat.reduceLeDiff, Nat.reduceSub, Int.reduceToNat, Int.reduceLE, Int.reduceLT, Int.reduceEq, Int.reduceNe, Int.reduceAdd, Int.reduceSub, Int.reduceMul, Int.reduceNeg, UInt8.reduceToNat, decide_true, decide_false, decide_not, Int.cast_ofNat_Int, Int.natCast_add, Int.add_sub_cancel, Int.sub_add_cancel, Int.toNat_natCast, eq_self, not_true_eq_false, not_false_eq_true]
      refine Br.of (fun h12 => ?_) (fun h12 => ?_)
      · simp (dsimp := false) (implicitDefEqProofs := false) (maxSteps := 1000000) (disch := omega) only [go_sem, Nat.reduceAdd, Nat.reduceMul, Nat.reduceEqDiff, Nat.reduceBEq, cond_true, cond_false, Nat.reduceLT, Nat.reduceLeDiff, Nat.reduceSub, Int.reduceToNat, Int.reduceLE, Int.reduceLT, Int.reduceEq, Int.reduceNe, Int.reduceAdd, Int.reduceSub, Int.reduceMul, Int.reduceNeg, UInt8.reduceToNat, decide_true, decide_false, decide_not, Int.cast_ofNat_Int, Int.natCast_add, Int.add_sub_cancel, Int.sub_add_cancel, Int.toNat_natCast, eq_self, not_true_eq_false, not_false_eq_true, hM]
        rw [if_neg (fun e => e h12)] at hq
        refine CF.by ((fail_lex k 100 s.here s F G M hL').callF func28 rfl rfl) ?_
        intro v M' h
        obtain ⟨rfl, _⟩ := id h
        simp (dsimp := false) (implicitDefEqProofs := false) (maxSteps := 1000000) (disch := omega) only [go_sem, Nat.reduceAdd, Nat.reduceMul, Nat.reduceEqDiff, Nat.reduceBEq, cond_true, cond_false, Nat.reduceLT, Nat.reduceLeDiff, Nat.reduceSub, Int.reduceToNat, Int.reduceLE, Int.reduceLT, Int.reduceEq, Int.reduceNe, Int.reduceAdd, Int.reduceSub, Int.reduceMul, Int.reduceNeg, UInt8.reduceToNat, decide_true, decide_false, decide_not, Int.cast_ofNat_Int, Int.natCast_add, Int.add_sub_cancel, Int.sub_add_cancel, Int.toNat_natCast, eq_self, not_true_eq_false, not_false_eq_true]
        exact endAll (by rw [hq]; exact h)
      · simp (dsimp := false) (implicitDefEqProofs := false) (maxSteps := 1000000) (disch := omega) only [go_sem, Nat.reduceAdd, Nat.reduceMul, Nat.reduceEqDiff, Nat.reduceBEq, cond_true, cond_false, Nat.reduceLT, Nat.reduceLeDiff, Nat.reduceSub, Int.reduceToNat, Int.reduceLE, Int.reduceLT, Int.reduceEq, Int.reduceNe, Int.reduceAdd, Int.reduceSub, Int.reduceMul, Int.reduceNeg, UInt8.reduceToNat, decide_true, decide_false, decide_not, Int.cast_ofNat_Int, Int.natCast_add, Int.add_sub_cancel, Int.sub_add_cancel, Int.toNat_natCast, eq_self, not_true_eq_false, not_false_eq_true, hM]
        refine O1_append (M := M.set k _) (hH1 _) (by rw [bcs_length, Nat.mul_one]) q_app42_9 (by rw [news_string, if_pos rfl]) hb (by omega) (by omega) (by omega) ?_
        intro E M1 hE hG
        have hk3 := hG.same k (by rw [next_set]; exact hk1) hkh
        rw [get_set] at hk3
        simp (dsimp := false) (implicitDefEqProofs := false) (maxSteps := 1000000) (disch := omega) only [go_sem, Nat.reduceAdd, Nat.reduceMul, Nat.reduceEqDiff, Nat.reduceBEq, cond_true, cond_false, Nat.reduceLT, Nat.reduceLeDiff, Nat.reduceSub, Int.reduceToNat, Int.reduceLE, Int.reduceLT, Int.reduceEq, Int.reduceNe, Int.reduceAdd, Int.reduceSub, Int.reduceMul, Int.reduceNeg, UInt8.reduceToNat, decide_true, decide_false, decide_not, Int.cast_ofNat_Int, Int.natCast_add, Int.add_sub_cancel, Int.sub_add_cancel, Int.toNat_natCast, eq_self, not_true_eq_false, not_false_eq_true, hE, hk3]
        rw [if_pos h12] at hq
        rw [hq]
        exact endAll (lexGrow hw hM' hH hT hF hG (s.go 8 b) rfl rfl _ (by simp [LexS.go]) _)
end Go.Proofs.Tryd
