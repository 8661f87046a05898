/-
  Walks of the seat of LexCuts, part 26: the statement's closed part.
-/
import Derived.Test.YtpljlblmagodlaaDoorW25
set_option linter.unusedVariables false
set_option linter.unusedSimpArgs false
set_option linter.unusedSimpArgs false
set_option maxRecDepth 100000
set_option maxHeartbeats 4000000
namespace Go.Proofs.Tryd
open Go Go.AL
theorem LexAt.al {M : Mem} {k : Nat} {F : Nat → Prop} {s : LexS} (h : LexAt M k F s) (hw : WF M) (a : AObj) : LexAt (M.alloc a) k F s := by
  obtain ⟨hk, tk, b1, b2, b3, b4⟩ := h
  exact ⟨hk, tk, by rw [get_alloc' (by have := hw.lt b1; omega)]; exact b1, b2.keep fun j ob _ e => by rw [get_alloc' (by have := hw.lt e; omega)]; exact e, b3.keep fun j ob _ e => by rw [get_alloc' (by have := hw.lt e; omega)]; exact e, b4⟩
theorem Row.al {M : Mem} {o : Option Nat} {cs : List Value} {e : Nat} (h : Row M o cs e) (hw : WF M) (a : AObj) : Row (M.alloc a) o cs e :=
  h.keep fun j ob _ e => by rw [get_alloc' (by have := hw.lt e; omega)]; exact e
theorem Row.own {M M' : Mem} {o : Option Nat} {cs : List Value} {e : Nat} {F F' : Nat → Prop} (h : Row M o cs e) (hO : Own M M' F F') (hn : ∀ j, o = some j → ¬ F j) : Row M' o cs e :=
  h.keep fun j ob e1 e2 => hO.keep j ob e2 (hn j e1)
def aw1 : LexS := ⟨1, [97, 98], [], ⟨0, 1, 1⟩, ⟨2, 1, 3⟩, 0, 0, P0, false, []⟩
def aw2 : LexS := ⟨8, [59], [], ⟨3, 1, 4⟩, ⟨4, 1, 5⟩, 0, 0, P0, false, []⟩
def aw3 : LexS := ⟨0, [], [], ⟨3, 1, 4⟩, ⟨4, 1, 5⟩, 0, 0, P0, true, []⟩
def tkA : Tk := ⟨1, [97, 98, 99], ⟨0, 1, 1⟩, 0⟩
def tkB : Tk := ⟨6, [59], ⟨3, 1, 4⟩, 0⟩
theorem aw_1 : lex0.feed [97, 98] = (aw1, [], 0, P0) := by kernel_rfl
theorem aw_2 : aw1.feed [99, 59] = (aw2, [tkA], 0, P0) := by kernel_rfl
theorem aw_3 : aw2.close = (aw3, [tkB], 0, P0) := by kernel_rfl
theorem aw_4 : aw3.close = (aw3, [], 4, P0) := by kernel_rfl
theorem aw_h : aw1.heldN = 2 := by kernel_rfl
theorem Own.out {M M' : Mem} {F F' : Nat → Prop} (h : Own M M' F F') {j : Nat} (hn : ¬ F j) (hj : j < M.next) : ¬ F' j := fun e => by
  rcases h.new j e with h1 | h1
  · exact hn h1
  · omega
theorem Row.some {M : Mem} {o : Option Nat} {cs : List Value} {e : Nat} (h : Row M o cs e) (hc : cs ≠ []) : ∃ k, o = .some k ∧ M.get k = .some (.cells cs e 0 false) := by
  cases o with
  | none => exact absurd h hc
  | some k => exact ⟨k, rfl, h⟩
theorem awake_walk (G : Nat) (M : Mem) (hGl : Glob G M) (hGu : GlobU G M) : ACalls prog G 4 [] M (Says (.bool true) M) := by
  refine ACalls.walk (N := 123) (rs := [.tmp 0]) func4 rfl rfl (by kernel_rfl) (by kernel_rfl) fun hw => ?_
  simp (dsimp := false) (implicitDefEqProofs := false) (maxSteps := 1000000) (disch := omega) only [go_sem, Nat.reduceAdd, Nat.reduceMul, Nat.reduceEqDiff, Nat.reduceBEq, cond_true, cond_false, Nat.reduceLT, Nat.reduceLeDiff, Nat.reduceSub, Int.reduceToNat, Int.reduceLE, Int.reduceLT, Int.reduceEq, Int.reduceNe, Int.reduceAdd, Int.reduceSub, Int.reduceMul, Int.reduceNeg, UInt8.reduceToNat, decide_true, decide_false, decide_not, Int.cast_ofNat_Int, Int.natCast_add, Int.add_sub_cancel, Int.sub_add_cancel, Int.toNat_natCast, eq_self, not_true_eq_false, not_false_eq_true]
  refine CF.byW ((new_walk G M).callF func6 rfl rfl) ?_
  intro v M1 hw1 h
  obtain ⟨rfl, hL⟩ := new_lex (G := G) h
  have hO : Own M M1 (fun _ => False) (· = M.next) := by
    rw [h.2]
    exact (Own.al hw (.refl M _)).to fun j e => .inr (by omega)
  clear h
  simp (dsimp := false) (implicitDefEqProofs := false) (maxSteps := 1000000) (disch := omega) only [go_sem, Nat.reduceAdd, Nat.reduceMul, Nat.reduceEqDiff, Nat.reduceBEq, cond_true, cond_false, Nat.reduceLT, Nat.reduceLeDiff, Nat.reduceSub, Int.reduceToNat, Int.reduceLE, Int.reduceLT, Int.reduceEq, Int.reduceNe, Int.reduceAdd, Int.reduceSub, Int.reduceMul, Int.reduceNeg, UInt8.reduceToNat, decide_true, decide_false, decide_not, Int.cast_ofNat_Int, Int.natCast_add, Int.add_sub_cancel, Int.sub_add_cancel, Int.toNat_natCast, eq_self, not_true_eq_false, not_false_eq_true]
  have gl : ∀ {M' : Mem} {F : Nat → Prop}, Own M M' (fun _ => False) F → Glob G M' ∧ GlobU G M' := fun h => ⟨hGl.keep fun k o e => h.keep k o e id, hGu.keep fun k o e => h.keep k o e id⟩
  generalize hkn : M.next = k at hO hL ⊢
  have hk0 : M.next ≤ k := by omega
  clear hkn
  refine CF.byW (feed_same k [97, 98] lex0 _ G M1 0 (gl hO).1 (gl hO).2 hL (by simp [lex0]) (by simp) ⟨fun _ => rfl, by simp [lex0], by simp [lex0], by simp [lex0]⟩ ⟨by simp [lex0], by simp [lex0], by simp [lex0]⟩) ?_
  rw [aw_1]
  rintro v M2 hw2 ⟨tk1, F2, rfl, hL2, hR2, hD2, hO2⟩
  have hO2' := hO.trans hw hO2
  simp only at hL2 hR2
  simp (dsimp := false) (implicitDefEqProofs := false) (maxSteps := 1000000) (disch := omega) only [go_sem, Nat.reduceAdd, Nat.reduceMul, Nat.reduceEqDiff, Nat.reduceBEq, cond_true, cond_false, Nat.reduceLT, Nat.reduceLeDiff, Nat.reduceSub, Int.reduceToNat, Int.reduceLE, Int.reduceLT, Int.reduceEq, Int.reduceNe, Int.reduceAdd, Int.reduceSub, Int.reduceMul, Int.reduceNeg, UInt8.reduceToNat, decide_true, decide_false, decide_not, Int.cast_ofNat_Int, Int.natCast_add, Int.add_sub_cancel, Int.sub_add_cancel, Int.toNat_natCast, eq_self, not_true_eq_false, not_false_eq_true, Pl.v, P0]
  have hL3 := hL2.al hw2 (.cells [.int .i64 0, .int .i64 0, .int .i64 0] 30 0 false)
  have hw3 : WF (M2.alloc (.cells [.int .i64 0, .int .i64 0, .int .i64 0] 30 0 false)) := WF.alloc hw2
  have hO3 : Own M (M2.alloc (.cells [.int .i64 0, .int .i64 0, .int .i64 0] 30 0 false)) (fun _ => False) F2 := .al hw hO2'
  refine CF.at ((held_walk k aw1 F2 G _ hL3 (by simp [aw1]) (by simp [aw1])).callF func8 rfl rfl) ?_
  rw [aw_h]
  simp (dsimp := false) (implicitDefEqProofs := false) (maxSteps := 1000000) (disch := omega) only [go_sem, Nat.reduceAdd, Nat.reduceMul, Nat.reduceEqDiff, Nat.reduceBEq, cond_true, cond_false, Nat.reduceLT, Nat.reduceLeDiff, Nat.reduceSub, Int.reduceToNat, Int.reduceLE, Int.reduceLT, Int.reduceEq, Int.reduceNe, Int.reduceAdd, Int.reduceSub, Int.reduceMul, Int.reduceNeg, UInt8.reduceToNat, decide_true, decide_false, decide_not, Int.cast_ofNat_Int, Int.natCast_add, Int.add_sub_cancel, Int.sub_add_cancel, Int.toNat_natCast, eq_self, not_true_eq_false, not_false_eq_true]
  refine CF.byW (feed_same k [99, 59] aw1 F2 G _ 2 (gl hO3).1 (gl hO3).2 hL3 (by simp [aw1]) (by simp) ⟨(fun e => by cases e), by simp [aw1], by simp [aw1], by simp [aw1]⟩ ⟨by simp [aw1], by simp [aw1], by simp [aw1]⟩) ?_
  rw [aw_2]
  rintro v M4 hw4 ⟨tk2, F4, rfl, hL4, hR4, hD4, hO4⟩
  have hO4' := hO3.trans hw hO4
  simp only at hL4 hR4
  simp (dsimp := false) (implicitDefEqProofs := false) (maxSteps := 1000000) (disch := omega) only [go_sem, Nat.reduceAdd, Nat.reduceMul, Nat.reduceEqDiff, Nat.reduceBEq, cond_true, cond_false, Nat.reduceLT, Nat.reduceLeDiff, Nat.reduceSub, Int.reduceToNat, Int.reduceLE, Int.reduceLT, Int.reduceEq, Int.reduceNe, Int.reduceAdd, Int.reduceSub, Int.reduceMul, Int.reduceNeg, UInt8.reduceToNat, decide_true, decide_false, decide_not, Int.cast_ofNat_Int, Int.natCast_add, Int.add_sub_cancel, Int.sub_add_cancel, Int.toNat_natCast, eq_self, not_true_eq_false, not_false_eq_true, Pl.v, P0]
  have hL5 := hL4.al hw4 (.cells [.int .i64 0, .int .i64 0, .int .i64 0] 30 0 false)
  have hw5 : WF (M4.alloc (.cells [.int .i64 0, .int .i64 0, .int .i64 0] 30 0 false)) := WF.alloc hw4
  have hR5 := Row.al hR4 hw4 (.cells [.int .i64 0, .int .i64 0, .int .i64 0] 30 0 false)
  have hO5 : Own M (M4.alloc (.cells [.int .i64 0, .int .i64 0, .int .i64 0] 30 0 false)) (fun _ => False) F4 := .al hw hO4'
  refine CF.byW ((close_walk k aw2 F4 G _ 4 (gl hO5).1 hL5 (by simp [aw2]) ⟨(fun e => by cases e), by simp [aw2], by simp [aw2], by simp [aw2]⟩ ⟨by simp [aw2], by simp [aw2], by simp [aw2]⟩).callF func9 rfl rfl) ?_
  rw [aw_3]
  rintro v M6 hw6 ⟨tk3, F6, rfl, hL6, hR6, hD6, hO6⟩
  have hO6' := hO5.trans hw hO6
  have hR56 := Row.own hR5 hO6 fun j e => (hD4 j e).1
  have hn56 : ∀ j, tk2 = some j → ¬ F6 j := fun j e => Own.out hO6 (hD4 j e).1 (hR5.lt hw5 e)
  simp only at hL6 hR6
  simp (dsimp := false) (implicitDefEqProofs := false) (maxSteps := 1000000) (disch := omega) only [go_sem, Nat.reduceAdd, Nat.reduceMul, Nat.reduceEqDiff, Nat.reduceBEq, cond_true, cond_false, Nat.reduceLT, Nat.reduceLeDiff, Nat.reduceSub, Int.reduceToNat, Int.reduceLE, Int.reduceLT, Int.reduceEq, Int.reduceNe, Int.reduceAdd, Int.reduceSub, Int.reduceMul, Int.reduceNeg, UInt8.reduceToNat, decide_true, decide_false, decide_not, Int.cast_ofNat_Int, Int.natCast_add, Int.add_sub_cancel, Int.sub_add_cancel, Int.toNat_natCast, eq_self, not_true_eq_false, not_false_eq_true, Pl.v, P0]
  have hL7 := hL6.al hw6 (.cells [.int .i64 0, .int .i64 0, .int .i64 0] 30 0 false)
  have hw7 : WF (M6.alloc (.cells [.int .i64 0, .int .i64 0, .int .i64 0] 30 0 false)) := WF.alloc hw6
  have hR7 := Row.al hR6 hw6 (.cells [.int .i64 0, .int .i64 0, .int .i64 0] 30 0 false)
  have hR57 := Row.al hR56 hw6 (.cells [.int .i64 0, .int .i64 0, .int .i64 0] 30 0 false)
  have hO7 : Own M (M6.alloc (.cells [.int .i64 0, .int .i64 0, .int .i64 0] 30 0 false)) (fun _ => False) F6 := .al hw hO6'
  refine CF.byW ((close_walk k aw3 F6 G _ 4 (gl hO7).1 hL7 (by simp [aw3]) ⟨fun e => rfl, by simp [aw3], by simp [aw3], by simp [aw3]⟩ ⟨by simp [aw3], by simp [aw3], by simp [aw3]⟩).callF func9 rfl rfl) ?_
  rw [aw_4]
  rintro v M8 hw8 ⟨tk4, F8, rfl, hL8, hR8, hD8, hO8⟩
  have hO8' := hO7.trans hw hO8
  have hR58 := Row.own hR57 hO8 hn56
  have hR78 := Row.own hR7 hO8 fun j e => (hD6 j e).1
  simp (dsimp := false) (implicitDefEqProofs := false) (maxSteps := 1000000) (disch := omega) only [go_sem, Nat.reduceAdd, Nat.reduceMul, Nat.reduceEqDiff, Nat.reduceBEq, cond_true, cond_false, Nat.reduceLT, Nat.reduceLeDiff, Nat.reduceSub, Int.reduceToNat, Int.reduceLE, Int.reduceLT, Int.reduceEq, Int.reduceNe, Int.reduceAdd, Int.reduceSub, Int.reduceMul, Int.reduceNeg, UInt8.reduceToNat, decide_true, decide_false, decide_not, Int.cast_ofNat_Int, Int.natCast_add, Int.add_sub_cancel, Int.sub_add_cancel, Int.toNat_natCast, eq_self, not_true_eq_false, not_false_eq_true, Pl.v, P0]
  refine CF.at ((feedNil_walk [97] G _).callF func7 rfl rfl) ?_
  simp (dsimp := false) (implicitDefEqProofs := false) (maxSteps := 1000000) (disch := omega) only [go_sem, Nat.reduceAdd, Nat.reduceMul, Nat.reduceEqDiff, Nat.reduceBEq, cond_true, cond_false, Nat.reduceLT, Nat.reduceLeDiff, Nat.reduceSub, Int.reduceToNat, Int.reduceLE, Int.reduceLT, Int.reduceEq, Int.reduceNe, Int.reduceAdd, Int.reduceSub, Int.reduceMul, Int.reduceNeg, UInt8.reduceToNat, decide_true, decide_false, decide_not, Int.cast_ofNat_Int, Int.natCast_add, Int.add_sub_cancel, Int.sub_add_cancel, Int.toNat_natCast, eq_self, not_true_eq_false, not_false_eq_true, Pl.v, P0]
  refine CF.at ((closeNil_walk G _).callF func9 rfl rfl) ?_
  simp (dsimp := false) (implicitDefEqProofs := false) (maxSteps := 1000000) (disch := omega) only [go_sem, Nat.reduceAdd, Nat.reduceMul, Nat.reduceEqDiff, Nat.reduceBEq, cond_true, cond_false, Nat.reduceLT, Nat.reduceLeDiff, Nat.reduceSub, Int.reduceToNat, Int.reduceLE, Int.reduceLT, Int.reduceEq, Int.reduceNe, Int.reduceAdd, Int.reduceSub, Int.reduceMul, Int.reduceNeg, UInt8.reduceToNat, decide_true, decide_false, decide_not, Int.cast_ofNat_Int, Int.natCast_add, Int.add_sub_cancel, Int.sub_add_cancel, Int.toNat_natCast, eq_self, not_true_eq_false, not_false_eq_true, Pl.v, P0]
  have hw9 : WF (M8.alloc (.cells [.int .i64 0, .int .i64 0, .int .i64 0] 30 0 false)) := WF.alloc hw8
  have hw10 : WF ((M8.alloc (.cells [.int .i64 0, .int .i64 0, .int .i64 0] 30 0 false)).alloc (.cells [.int .i64 0, .int .i64 0, .int .i64 0] 30 0 false)) := WF.alloc hw9
  obtain ⟨j2, rfl, hj2⟩ := Row.some (Row.al (Row.al (Row.al hR58 hw8 (.cells [.int .i64 0, .int .i64 0, .int .i64 0] 30 0 false)) hw9 (.cells [.int .i64 0, .int .i64 0, .int .i64 0] 30 0 false)) hw10 (.cells [.int .i64 0, .int .i64 0, .int .i64 0] 30 0 false)) (by simp [tkCells, Tk.cells])
  obtain ⟨j3, rfl, hj3⟩ := Row.some (Row.al (Row.al (Row.al hR78 hw8 (.cells [.int .i64 0, .int .i64 0, .int .i64 0] 30 0 false)) hw9 (.cells [.int .i64 0, .int .i64 0, .int .i64 0] 30 0 false)) hw10 (.cells [.int .i64 0, .int .i64 0, .int .i64 0] 30 0 false)) (by simp [tkCells, Tk.cells])
  have l1 : aLen prog 27 (sl tk1 0) = some (.int .i64 0) := sl_len (by exact q_u27) (fun _ => rfl)
  have hO9 : Own M (((M8.alloc (.cells [.int .i64 0, .int .i64 0, .int .i64 0] 30 0 false)).alloc (.cells [.int .i64 0, .int .i64 0, .int .i64 0] 30 0 false)).alloc (.cells [.int .i64 0, .int .i64 0, .int .i64 0] 30 0 false)) (fun _ => False) F8 := .al hw (.al hw (.al hw hO8'))
  generalize ((M8.alloc (.cells [.int .i64 0, .int .i64 0, .int .i64 0] 30 0 false)).alloc (.cells [.int .i64 0, .int .i64 0, .int .i64 0] 30 0 false)).alloc (.cells [.int .i64 0, .int .i64 0, .int .i64 0] 30 0 false) = M9 at hj2 hj3 hO9 ⊢
  simp only [tkCells, tkA, tkB, Tk.cells, List.flatMap_cons, List.flatMap_nil, List.append_nil] at hj2 hj3
  simp (dsimp := false) (implicitDefEqProofs := false) (maxSteps := 1000000) (disch := omega) only [go_sem, Nat.reduceAdd, Nat.reduceMul, Nat.reduceEqDiff, Nat.reduceBEq, cond_true, cond_false, Nat.reduceLT, Nat.reduceLeDiff, Nat.reduceSub, Int.reduceToNat, Int.reduceLE, Int.reduceLT, Int.reduceEq, Int.reduceNe, Int.reduceAdd, Int.reduceSub, Int.reduceMul, Int.reduceNeg, UInt8.reduceToNat, decide_true, decide_false, decide_not, Int.cast_ofNat_Int, Int.natCast_add, Int.add_sub_cancel, Int.sub_add_cancel, Int.toNat_natCast, eq_self, not_true_eq_false, not_false_eq_true, l1, sl_some, hj2, hj3]
  refine CF.at ((heldNil_walk G M9).callF func8 rfl rfl) ?_
  simp (dsimp := false) (implicitDefEqProofs := false) (maxSteps := 1000000) (disch := omega) only [go_sem, Nat.reduceAdd, Nat.reduceMul, Nat.reduceEqDiff, Nat.reduceBEq, cond_true, cond_false, Nat.reduceLT, Nat.reduceLeDiff, Nat.reduceSub, Int.reduceToNat, Int.reduceLE, Int.reduceLT, Int.reduceEq, Int.reduceNe, Int.reduceAdd, Int.reduceSub, Int.reduceMul, Int.reduceNeg, UInt8.reduceToNat, decide_true, decide_false, decide_not, Int.cast_ofNat_Int, Int.natCast_add, Int.add_sub_cancel, Int.sub_add_cancel, Int.toNat_natCast, eq_self, not_true_eq_false, not_false_eq_true]
  exact endSays rfl (fun k o e => hO9.keep k o e id) rfl
end Go.Proofs.Tryd
