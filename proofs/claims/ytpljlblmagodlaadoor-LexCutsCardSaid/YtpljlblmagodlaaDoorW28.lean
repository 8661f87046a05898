/-
  Walks of the seat of LexCuts, part 28: the statement's function.
-/
import Derived.Test.YtpljlblmagodlaaDoorW27
set_option linter.unusedVariables false
set_option linter.unusedSimpArgs false
set_option linter.unusedSimpArgs false
set_option maxRecDepth 100000
set_option maxHeartbeats 4000000
namespace Go.Proofs.Tryd
open Go Go.AL
theorem takeFlat {l : List (List UInt8)} {i : Nat} (h : i < l.length) : (l.take (i + 1)).flatten = (l.take i).flatten ++ l[i] := by
  rw [List.take_add_one, List.getElem?_eq_getElem h, Option.toList_some, List.flatten_append, List.flatten_cons, List.flatten_nil, List.append_nil]
theorem flatLe (l : List (List UInt8)) (j : Nat) : (l.take j).flatten.length ≤ l.flatten.length := by
  have h := congrArg (fun x => x.flatten.length) (List.take_append_drop j l)
  simp only [List.flatten_append, List.length_append] at h
  omega
theorem pl_eq (a b c : Int) : eqL [2, 2, 2] [.int .i64 a, .int .i64 b, .int .i64 c] [.int .i64 a, .int .i64 b, .int .i64 c] = some true := by
  simp [eqL, eqK]
theorem cuts_walk (l : List (List UInt8)) (va : Value) (G : Nat) (M : Mem) (hGl : Glob G M) (hGu : GlobU G M) (hA : StrArg prog M 22 va l) (hb : ∀ s ∈ l, s.length < 281474976710656) (hl : l.length < 281474976710656)
    (hlaw : sizeL l 0 ≤ 67108864 → cutAll l = allF l.flatten) : ACalls prog G 3 [va] M (Says (.bool true) M) := by
  have hA' := hA
  obtain ⟨l1, hk⟩ := hA
  refine ACalls.walk (N := 112) (rs := [.tmp 2]) func3 rfl rfl (by kernel_rfl) (by kernel_rfl) fun hw => ?_
  simp (dsimp := false) (implicitDefEqProofs := false) (maxSteps := 1000000) (disch := omega) only [go_sem, Nat.reduceAdd, Nat.reduceMul, Nat.reduceEqDiff, Nat.reduceBEq, cond_true, cond_false, Nat.reduceLT, Nat.reduceLeDiff, Nat.reduceSub, Int.reduceToNat, Int.reduceLE, Int.reduceLT, Int.reduceEq, Int.reduceNe, Int.reduceAdd, Int.reduceSub, Int.reduceMul, Int.reduceNeg, UInt8.reduceToNat, decide_true, decide_false, decide_not, Int.cast_ofNat_Int, Int.natCast_add, Int.add_sub_cancel, Int.sub_add_cancel, Int.toNat_natCast, eq_self, not_true_eq_false, not_false_eq_true]
  refine CF.at ((awake_walk G M hGl hGu).callF func4 rfl rfl) ?_
  simp (dsimp := false) (implicitDefEqProofs := false) (maxSteps := 1000000) (disch := omega) only [go_sem, Nat.reduceAdd, Nat.reduceMul, Nat.reduceEqDiff, Nat.reduceBEq, cond_true, cond_false, Nat.reduceLT, Nat.reduceLeDiff, Nat.reduceSub, Int.reduceToNat, Int.reduceLE, Int.reduceLT, Int.reduceEq, Int.reduceNe, Int.reduceAdd, Int.reduceSub, Int.reduceMul, Int.reduceNeg, UInt8.reduceToNat, decide_true, decide_false, decide_not, Int.cast_ofNat_Int, Int.natCast_add, Int.add_sub_cancel, Int.sub_add_cancel, Int.toNat_natCast, eq_self, not_true_eq_false, not_false_eq_true]
  refine CF.at ((size_walk l va G M hA' hb hl).callF func5 rfl rfl) ?_
  simp (dsimp := false) (implicitDefEqProofs := false) (maxSteps := 1000000) (disch := omega) only [go_sem, Nat.reduceAdd, Nat.reduceMul, Nat.reduceEqDiff, Nat.reduceBEq, cond_true, cond_false, Nat.reduceLT, Nat.reduceLeDiff, Nat.reduceSub, Int.reduceToNat, Int.reduceLE, Int.reduceLT, Int.reduceEq, Int.reduceNe, Int.reduceAdd, Int.reduceSub, Int.reduceMul, Int.reduceNeg, UInt8.reduceToNat, decide_true, decide_false, decide_not, Int.cast_ofNat_Int, Int.natCast_add, Int.add_sub_cancel, Int.sub_add_cancel, Int.toNat_natCast, eq_self, not_true_eq_false, not_false_eq_true]
  refine Br.of (fun g1 => ?_) (fun g1 => ?_)
  · simp (dsimp := false) (implicitDefEqProofs := false) (maxSteps := 1000000) (disch := omega) only [go_sem, Nat.reduceAdd, Nat.reduceMul, Nat.reduceEqDiff, Nat.reduceBEq, cond_true, cond_false, Nat.reduceLT, Nat.reduceLeDiff, Nat.reduceSub, Int.reduceToNat, Int.reduceLE, Int.reduceLT, Int.reduceEq, Int.reduceNe, Int.reduceAdd, Int.reduceSub, Int.reduceMul, Int.reduceNeg, UInt8.reduceToNat, decide_true, decide_false, decide_not, Int.cast_ofNat_Int, Int.natCast_add, Int.add_sub_cancel, Int.sub_add_cancel, Int.toNat_natCast, eq_self, not_true_eq_false, not_false_eq_true, g1]
    exact endSays rfl (Keep.refl _) rfl
  have hsz := sizeL_le l 0 (by omega)
  have hlaw' := hlaw (by omega)
  simp (dsimp := false) (implicitDefEqProofs := false) (maxSteps := 1000000) (disch := omega) only [go_sem, Nat.reduceAdd, Nat.reduceMul, Nat.reduceEqDiff, Nat.reduceBEq, cond_true, cond_false, Nat.reduceLT, Nat.reduceLeDiff, Nat.reduceSub, Int.reduceToNat, Int.reduceLE, Int.reduceLT, Int.reduceEq, Int.reduceNe, Int.reduceAdd, Int.reduceSub, Int.reduceMul, Int.reduceNeg, UInt8.reduceToNat, decide_true, decide_false, decide_not, Int.cast_ofNat_Int, Int.natCast_add, Int.add_sub_cancel, Int.sub_add_cancel, Int.toNat_natCast, eq_self, not_true_eq_false, not_false_eq_true, g1, l1]
  refine Br.of (fun g2 => ?_) (fun g2 => ?_)
  · simp (dsimp := false) (implicitDefEqProofs := false) (maxSteps := 1000000) (disch := omega) only [go_sem, Nat.reduceAdd, Nat.reduceMul, Nat.reduceEqDiff, Nat.reduceBEq, cond_true, cond_false, Nat.reduceLT, Nat.reduceLeDiff, Nat.reduceSub, Int.reduceToNat, Int.reduceLE, Int.reduceLT, Int.reduceEq, Int.reduceNe, Int.reduceAdd, Int.reduceSub, Int.reduceMul, Int.reduceNeg, UInt8.reduceToNat, decide_true, decide_false, decide_not, Int.cast_ofNat_Int, Int.natCast_add, Int.add_sub_cancel, Int.sub_add_cancel, Int.toNat_natCast, eq_self, not_true_eq_false, not_false_eq_true]
    exact endSays rfl (Keep.refl _) rfl
  simp (dsimp := false) (implicitDefEqProofs := false) (maxSteps := 1000000) (disch := omega) only [go_sem, Nat.reduceAdd, Nat.reduceMul, Nat.reduceEqDiff, Nat.reduceBEq, cond_true, cond_false, Nat.reduceLT, Nat.reduceLeDiff, Nat.reduceSub, Int.reduceToNat, Int.reduceLE, Int.reduceLT, Int.reduceEq, Int.reduceNe, Int.reduceAdd, Int.reduceSub, Int.reduceMul, Int.reduceNeg, UInt8.reduceToNat, decide_true, decide_false, decide_not, Int.cast_ofNat_Int, Int.natCast_add, Int.add_sub_cancel, Int.sub_add_cancel, Int.toNat_natCast, eq_self, not_true_eq_false, not_false_eq_true]
  -- all together
  refine LP.by (fun a : Nat => [(0, va), (3, .bool true), (4, .int .i64 (sizeL l 0)), (5, .string (bs (l.take a).flatten)), (6, .int .i64 a)]) (fun a M' => a ≤ l.length ∧ M' = M) (fun a => l.length - a) 0 (by kernel_rfl) ⟨by omega, rfl⟩ (by simp (dsimp := false) (implicitDefEqProofs := false) (maxSteps := 1000000) (disch := omega) only [go_sem, Nat.reduceAdd, Nat.reduceMul, Nat.reduceEqDiff, Nat.reduceBEq, cond_true, cond_false, Nat.reduceLT, Nat.reduceLeDiff, Nat.reduceSub, Int.reduceToNat, Int.reduceLE, Int.reduceLT, Int.reduceEq, Int.reduceNe, Int.reduceAdd, Int.reduceSub, Int.reduceMul, Int.reduceNeg, UInt8.reduceToNat, decide_true, decide_false, decide_not, Int.cast_ofNat_Int, Int.natCast_add, Int.add_sub_cancel, Int.sub_add_cancel, Int.toNat_natCast, eq_self, not_true_eq_false, not_false_eq_true, List.take_zero, List.flatten_nil]) ?_
  rintro a M' ⟨g3, rfl⟩ ih
  simp (dsimp := false) (implicitDefEqProofs := false) (maxSteps := 1000000) (disch := omega) only [go_sem, Nat.reduceAdd, Nat.reduceMul, Nat.reduceEqDiff, Nat.reduceBEq, cond_true, cond_false, Nat.reduceLT, Nat.reduceLeDiff, Nat.reduceSub, Int.reduceToNat, Int.reduceLE, Int.reduceLT, Int.reduceEq, Int.reduceNe, Int.reduceAdd, Int.reduceSub, Int.reduceMul, Int.reduceNeg, UInt8.reduceToNat, decide_true, decide_false, decide_not, Int.cast_ofNat_Int, Int.natCast_add, Int.add_sub_cancel, Int.sub_add_cancel, Int.toNat_natCast, eq_self, not_true_eq_false, not_false_eq_true, l1]
  refine Br.of (fun g4 => ?_) (fun g4 => ?_)
  · obtain ⟨k, e, c, rfl, hM⟩ := hk (by omega)
    have hx := row_get l a g4
    have hgd : l.getD a [] = l[a] := by simp [g4]
    have hfl : (l.take (a + 1)).flatten = (l.take a).flatten ++ l[a] := by rw [List.take_add_one, List.getElem?_eq_getElem g4, Option.toList_some, List.flatten_append, List.flatten_cons, List.flatten_nil, List.append_nil]
    have hle : ∀ j, (l.take j).flatten.length ≤ l.flatten.length := fun j => by
      have h := congrArg (fun x => x.flatten.length) (List.take_append_drop j l)
      simp only [List.flatten_append, List.length_append] at h
      omega
    have h1 := hle (a + 1)
    rw [hfl, List.length_append] at h1
    simp (dsimp := false) (implicitDefEqProofs := false) (maxSteps := 1000000) (disch := omega) only [go_sem, Nat.reduceAdd, Nat.reduceMul, Nat.reduceEqDiff, Nat.reduceBEq, cond_true, cond_false, Nat.reduceLT, Nat.reduceLeDiff, Nat.reduceSub, Int.reduceToNat, Int.reduceLE, Int.reduceLT, Int.reduceEq, Int.reduceNe, Int.reduceAdd, Int.reduceSub, Int.reduceMul, Int.reduceNeg, UInt8.reduceToNat, decide_true, decide_false, decide_not, Int.cast_ofNat_Int, Int.natCast_add, Int.add_sub_cancel, Int.sub_add_cancel, Int.toNat_natCast, eq_self, not_true_eq_false, not_false_eq_true, hM, hx, Nat.mul_one, hgd]
    refine ⟨by omega, ih (a + 1) _ _ (by omega) ⟨by omega, rfl⟩ (by simp (dsimp := false) (implicitDefEqProofs := false) (maxSteps := 1000000) (disch := omega) only [go_sem, Nat.reduceAdd, Nat.reduceMul, Nat.reduceEqDiff, Nat.reduceBEq, cond_true, cond_false, Nat.reduceLT, Nat.reduceLeDiff, Nat.reduceSub, Int.reduceToNat, Int.reduceLE, Int.reduceLT, Int.reduceEq, Int.reduceNe, Int.reduceAdd, Int.reduceSub, Int.reduceMul, Int.reduceNeg, UInt8.reduceToNat, decide_true, decide_false, decide_not, Int.cast_ofNat_Int, Int.natCast_add, Int.add_sub_cancel, Int.sub_add_cancel, Int.toNat_natCast, eq_self, not_true_eq_false, not_false_eq_true, hfl])⟩
  have hta : (l.take a).flatten = l.flatten := by rw [List.take_of_length_le (by omega)]
  rw [hta]
  clear ih
  simp (dsimp := false) (implicitDefEqProofs := false) (maxSteps := 1000000) (disch := omega) only [go_sem, Nat.reduceAdd, Nat.reduceMul, Nat.reduceEqDiff, Nat.reduceBEq, cond_true, cond_false, Nat.reduceLT, Nat.reduceLeDiff, Nat.reduceSub, Int.reduceToNat, Int.reduceLE, Int.reduceLT, Int.reduceEq, Int.reduceNe, Int.reduceAdd, Int.reduceSub, Int.reduceMul, Int.reduceNeg, UInt8.reduceToNat, decide_true, decide_false, decide_not, Int.cast_ofNat_Int, Int.natCast_add, Int.add_sub_cancel, Int.sub_add_cancel, Int.toNat_natCast, eq_self, not_true_eq_false, not_false_eq_true]
  refine CF.byW ((new_walk G M').callF func6 rfl rfl) ?_
  intro v M1 hw1 h
  obtain ⟨rfl, hL⟩ := new_lex (G := G) h
  have hO : Own M' M1 (fun _ => False) (· = M'.next) := by
    rw [h.2]
    exact (Own.al hw (.refl M' _)).to fun j e => .inr (by omega)
  have hn1 : M1.next = M'.next + 1 := by rw [h.2]; rfl
  clear h
  simp (dsimp := false) (implicitDefEqProofs := false) (maxSteps := 1000000) (disch := omega) only [go_sem, Nat.reduceAdd, Nat.reduceMul, Nat.reduceEqDiff, Nat.reduceBEq, cond_true, cond_false, Nat.reduceLT, Nat.reduceLeDiff, Nat.reduceSub, Int.reduceToNat, Int.reduceLE, Int.reduceLT, Int.reduceEq, Int.reduceNe, Int.reduceAdd, Int.reduceSub, Int.reduceMul, Int.reduceNeg, UInt8.reduceToNat, decide_true, decide_false, decide_not, Int.cast_ofNat_Int, Int.natCast_add, Int.add_sub_cancel, Int.sub_add_cancel, Int.toNat_natCast, eq_self, not_true_eq_false, not_false_eq_true]
  -- chunk by chunk
  have hkeep : Keep M' M1 := fun k o e => hO.keep k o e id
  have hw2 : WF (M1.alloc (.cells [.int .i64 0, .int .i64 0, .int .i64 0] 30 0 false)) := WF.alloc hw1
  generalize hkn : M'.next = k at hO hL hn1 ⊢
  rw [hn1]
  refine LP.by (fun a : Nat × LexS × List Tk × Nat × Pl × Option Nat => [(0, va), (3, .bool true), (4, .int .i64 (sizeL l 0)), (5, .string (bs l.flatten)), (7, lp k), (8, sl a.2.2.2.2.2 a.2.2.1.length), (9, .int .i64 a.2.2.2.1), (10, .pointer (some ⟨k + 1, 0, none⟩)), (11, .int .i64 a.1)])
    (fun a M2 => (∃ F, LexAt M2 k F a.2.1 ∧ (∀ j, F j → k ≤ j) ∧ ¬ F (k + 1) ∧ ∀ j, a.2.2.2.2.2 = some j → ¬ F j ∧ k ≤ j) ∧ Row M2 a.2.2.2.2.2 (tkCells a.2.2.1) 39 ∧ M2.get (k + 1) = some (.cells [.int .i64 a.2.2.2.2.1.at', .int .i64 a.2.2.2.2.1.ln, .int .i64 a.2.2.2.2.1.col] 30 0 false) ∧
      Keep M' M2 ∧ k ≤ M2.next ∧ WF M2 ∧ a.1 ≤ l.length ∧ CutOK a.2.1 (l.take a.1).flatten.length ∧ (a.2.2.2.1 = 0 → a.2.1.wrong = 0) ∧ cutF l lex0 [] = (if a.2.2.2.1 = 0 then cutF (l.drop a.1) a.2.1 a.2.2.1 else (a.2.1, a.2.2.1, a.2.2.2.1, a.2.2.2.2.1)) ∧ a.2.2.1.length ≤ a.1 * 70000000)
    (fun a => l.length - a.1) (0, lex0, [], 0, P0, none) (by kernel_rfl) ?_ (by simp (dsimp := false) (implicitDefEqProofs := false) (maxSteps := 1000000) (disch := omega) only [go_sem, Nat.reduceAdd, Nat.reduceMul, Nat.reduceEqDiff, Nat.reduceBEq, cond_true, cond_false, Nat.reduceLT, Nat.reduceLeDiff, Nat.reduceSub, Int.reduceToNat, Int.reduceLE, Int.reduceLT, Int.reduceEq, Int.reduceNe, Int.reduceAdd, Int.reduceSub, Int.reduceMul, Int.reduceNeg, UInt8.reduceToNat, decide_true, decide_false, decide_not, Int.cast_ofNat_Int, Int.natCast_add, Int.add_sub_cancel, Int.sub_add_cancel, Int.toNat_natCast, eq_self, not_true_eq_false, not_false_eq_true, sl_none]) ?_
  · refine ⟨⟨_, hL.al hw1 _, (fun j e => by omega), by omega, fun j e => by cases e⟩, rfl, by rw [get_alloc hn1.symm]; rfl, fun q o e => by rw [get_alloc' (by have := hw.lt e; omega)]; exact hkeep q o e, by rw [next_alloc]; omega, hw2, Nat.zero_le _, lex0_cut, fun _ => rfl, rfl, Nat.zero_le _⟩
  rintro ⟨i, s, got, e, p, gk⟩ M2 ⟨⟨F, hL2, hF1, hF2, hF3⟩, hRg, hgc, hK, hn2, hw2, hi, hC, he0, hcut, hgl⟩ ih
  simp only at hL2 hF1 hF2 hF3 hRg hgc hK hn2 hw2 hi hC he0 hcut hgl
  simp (dsimp := false) (implicitDefEqProofs := false) (maxSteps := 1000000) (disch := omega) only [go_sem, Nat.reduceAdd, Nat.reduceMul, Nat.reduceEqDiff, Nat.reduceBEq, cond_true, cond_false, Nat.reduceLT, Nat.reduceLeDiff, Nat.reduceSub, Int.reduceToNat, Int.reduceLE, Int.reduceLT, Int.reduceEq, Int.reduceNe, Int.reduceAdd, Int.reduceSub, Int.reduceMul, Int.reduceNeg, UInt8.reduceToNat, decide_true, decide_false, decide_not, Int.cast_ofNat_Int, Int.natCast_add, Int.add_sub_cancel, Int.sub_add_cancel, Int.toNat_natCast, eq_self, not_true_eq_false, not_false_eq_true, l1]
  refine Br.of (fun g5 => ?_) (fun g5 => ?_)
  · simp (dsimp := false) (implicitDefEqProofs := false) (maxSteps := 1000000) (disch := omega) only [go_sem, Nat.reduceAdd, Nat.reduceMul, Nat.reduceEqDiff, Nat.reduceBEq, cond_true, cond_false, Nat.reduceLT, Nat.reduceLeDiff, Nat.reduceSub, Int.reduceToNat, Int.reduceLE, Int.reduceLT, Int.reduceEq, Int.reduceNe, Int.reduceAdd, Int.reduceSub, Int.reduceMul, Int.reduceNeg, UInt8.reduceToNat, decide_true, decide_false, decide_not, Int.cast_ofNat_Int, Int.natCast_add, Int.add_sub_cancel, Int.sub_add_cancel, Int.toNat_natCast, eq_self, not_true_eq_false, not_false_eq_true, g5]
    refine Br.of (fun g6 => ?_) (fun g6 => ?_)
    · obtain rfl : e = 0 := by omega
      have hwr := he0 rfl
      rw [if_pos rfl, List.drop_eq_getElem_cons g5, cutF] at hcut
      have hCf := hC.feed hwr l[i]
      have hCt := hC.toks hwr l[i]
      have htf := takeFlat g5
      have hfl2 := flatLe l (i + 1)
      rw [htf, List.length_append] at hfl2
      obtain ⟨fw1, fw2, fw3⟩ := feed_wrong hC.closed hwr l[i]
      obtain ⟨q, e', c', rfl, hM⟩ := hk (by omega)
      have hMq := hK _ _ hM
      have hx := row_get l i g5
      have hgd : l.getD i [] = l[i] := by simp [g5]
      obtain ⟨⟨N, c1, c2, c3, c4⟩, c5, c6⟩ := id hC
      have hli : l[i].length ≤ l.flatten.length := by omega
      simp (dsimp := false) (implicitDefEqProofs := false) (maxSteps := 1000000) (disch := omega) only [go_sem, Nat.reduceAdd, Nat.reduceMul, Nat.reduceEqDiff, Nat.reduceBEq, cond_true, cond_false, Nat.reduceLT, Nat.reduceLeDiff, Nat.reduceSub, Int.reduceToNat, Int.reduceLE, Int.reduceLT, Int.reduceEq, Int.reduceNe, Int.reduceAdd, Int.reduceSub, Int.reduceMul, Int.reduceNeg, UInt8.reduceToNat, decide_true, decide_false, decide_not, Int.cast_ofNat_Int, Int.natCast_add, Int.add_sub_cancel, Int.sub_add_cancel, Int.toNat_natCast, eq_self, not_true_eq_false, not_false_eq_true, hMq, hx, Nat.mul_one, hgd]
      refine ⟨by omega, CF.byW (feed_same k l[i] s F G M2 N (hGl.keep hK) (hGu.keep hK) hL2 c5 (by omega) c1 c2) ?_⟩
      generalize s.feed l[i] = X at hcut hCf hCt fw1 fw2 fw3
      obtain ⟨s', tks, er, pl⟩ := X
      simp only at hcut hCf hCt fw1 fw2 fw3 ⊢
      rintro v M3 hw3 ⟨tk3, F3, rfl, hL3, hR3, hD3, hO3⟩
      have hgc3 := hO3.keep _ _ hgc hF2
      have hRg3 := Row.own hRg hO3 fun j e => (hF3 j e).1
      have hK3 : Keep M' M3 := fun q o h => hO3.keep q o (hK q o h) fun hf => by have := hF1 q hf; have := hw.lt h; omega
      have hn3 := hO3.next
      have hF13 : ∀ j, F3 j → k ≤ j := fun j hf => by
        rcases hO3.new j hf with h | h
        · exact hF1 j h
        · omega
      have hlt : k + 1 < M2.next := hw2.lt hgc
      have hF23 : ¬ F3 (k + 1) := Own.out hO3 hF2 hlt
      simp (dsimp := false) (implicitDefEqProofs := false) (maxSteps := 1000000) (disch := omega) only [go_sem, Nat.reduceAdd, Nat.reduceMul, Nat.reduceEqDiff, Nat.reduceBEq, cond_true, cond_false, Nat.reduceLT, Nat.reduceLeDiff, Nat.reduceSub, Int.reduceToNat, Int.reduceLE, Int.reduceLT, Int.reduceEq, Int.reduceNe, Int.reduceAdd, Int.reduceSub, Int.reduceMul, Int.reduceNeg, UInt8.reduceToNat, decide_true, decide_false, decide_not, Int.cast_ofNat_Int, Int.natCast_add, Int.add_sub_cancel, Int.sub_add_cancel, Int.toNat_natCast, eq_self, not_true_eq_false, not_false_eq_true, Pl.v, hgc3]
      have hgf : ∀ j, gk = some j → ¬ F3 j := fun j e => Own.out hO3 (hF3 j e).1 (hRg.lt hw2 e)
      have hgne : gk ≠ some (k + 1) := hRg.ne hgc (by decide)
      have htne : tk3 ≠ some (k + 1) := hR3.ne hgc3 (by decide)
      have hwA : WF (M3.set (k + 1) (.cells [.int .i64 pl.at', .int .i64 pl.ln, .int .i64 pl.col] 30 0 false)) := WF.set hw3 (by omega)
      refine O1_appendG (M := M3.set (k + 1) _) (Row.away hRg3 hgne _) (tkCells_length _) q_app27_27 (news_sl (Row.away hR3 htne _) (tkCells_length _) (by omega)) (tkCells_length _) (by omega) (by omega) (by omega) ?_
      intro E M4 gk' hE hJ
      have hJO := hJ.own hwA
      have hJn := hJ.next
      rw [next_set] at hJn
      have hL4 : LexAt M4 k F3 s' := by
        have h := hL3.away hF23 (.cells [.int .i64 pl.at', .int .i64 pl.ln, .int .i64 pl.col] 30 0 false)
        obtain ⟨u1, u2, b1, b2, b3, b4⟩ := h
        refine ⟨u1, u2, hJO.keep _ _ b1 fun e => hgf _ e ((b4 _).2 (.inl rfl)), Row.own b2 hJO fun j e1 e2 => hgf j e2 ((b4 j).2 (.inr (.inl e1.symm))), Row.own b3 hJO fun j e1 e2 => hgf j e2 ((b4 j).2 (.inr (.inr e1.symm))), b4⟩
      have hgc4 : M4.get (k + 1) = some (.cells [.int .i64 pl.at', .int .i64 pl.ln, .int .i64 pl.col] 30 0 false) := hJO.keep _ _ get_set hgne
      have hK4 : Keep M' M4 := fun q o h => by
        have hq := hw.lt h
        refine hJO.keep q o ?_ fun e => ?_
        · rw [get_set' (by omega)]; exact hK3 q o h
        · have := (hF3 q e).2; omega
      have hRJ := hJ.row
      rw [show tkCells got ++ tkCells tks = tkCells (got ++ tks) by simp [tkCells]] at hRJ
      have hw4 : WF M4 := hJ.wf hwA
      simp (dsimp := false) (implicitDefEqProofs := false) (maxSteps := 1000000) (disch := omega) only [go_sem, Nat.reduceAdd, Nat.reduceMul, Nat.reduceEqDiff, Nat.reduceBEq, cond_true, cond_false, Nat.reduceLT, Nat.reduceLeDiff, Nat.reduceSub, Int.reduceToNat, Int.reduceLE, Int.reduceLT, Int.reduceEq, Int.reduceNe, Int.reduceAdd, Int.reduceSub, Int.reduceMul, Int.reduceNeg, UInt8.reduceToNat, decide_true, decide_false, decide_not, Int.cast_ofNat_Int, Int.natCast_add, Int.add_sub_cancel, Int.sub_add_cancel, Int.toNat_natCast, eq_self, not_true_eq_false, not_false_eq_true, hE]
      obtain ⟨hh1, hh2⟩ := hCf.heldN
      have hoh := hCf.ok
      obtain ⟨N', q1, q2, q3, q4⟩ := hoh
      refine CF.at ((held_walk k s' F3 G M4 hL4 (by have := q1.held; omega) (by have := hCf.opn; omega)).callF func8 rfl rfl) ?_
      simp (dsimp := false) (implicitDefEqProofs := false) (maxSteps := 1000000) (disch := omega) only [go_sem, Nat.reduceAdd, Nat.reduceMul, Nat.reduceEqDiff, Nat.reduceBEq, cond_true, cond_false, Nat.reduceLT, Nat.reduceLeDiff, Nat.reduceSub, Int.reduceToNat, Int.reduceLE, Int.reduceLT, Int.reduceEq, Int.reduceNe, Int.reduceAdd, Int.reduceSub, Int.reduceMul, Int.reduceNeg, UInt8.reduceToNat, decide_true, decide_false, decide_not, Int.cast_ofNat_Int, Int.natCast_add, Int.add_sub_cancel, Int.sub_add_cancel, Int.toNat_natCast, eq_self, not_true_eq_false, not_false_eq_true]
      refine Br.of (fun h7 => absurd h7 (by omega)) (fun h7 => ?_)
      simp (dsimp := false) (implicitDefEqProofs := false) (maxSteps := 1000000) (disch := omega) only [go_sem, Nat.reduceAdd, Nat.reduceMul, Nat.reduceEqDiff, Nat.reduceBEq, cond_true, cond_false, Nat.reduceLT, Nat.reduceLeDiff, Nat.reduceSub, Int.reduceToNat, Int.reduceLE, Int.reduceLT, Int.reduceEq, Int.reduceNe, Int.reduceAdd, Int.reduceSub, Int.reduceMul, Int.reduceNeg, UInt8.reduceToNat, decide_true, decide_false, decide_not, Int.cast_ofNat_Int, Int.natCast_add, Int.add_sub_cancel, Int.sub_add_cancel, Int.toNat_natCast, eq_self, not_true_eq_false, not_false_eq_true, h7]
      refine Br.of (fun h8 => absurd h8 (by omega)) (fun h8 => ?_)
      simp (dsimp := false) (implicitDefEqProofs := false) (maxSteps := 1000000) (disch := omega) only [go_sem, Nat.reduceAdd, Nat.reduceMul, Nat.reduceEqDiff, Nat.reduceBEq, cond_true, cond_false, Nat.reduceLT, Nat.reduceLeDiff, Nat.reduceSub, Int.reduceToNat, Int.reduceLE, Int.reduceLT, Int.reduceEq, Int.reduceNe, Int.reduceAdd, Int.reduceSub, Int.reduceMul, Int.reduceNeg, UInt8.reduceToNat, decide_true, decide_false, decide_not, Int.cast_ofNat_Int, Int.natCast_add, Int.add_sub_cancel, Int.sub_add_cancel, Int.toNat_natCast, eq_self, not_true_eq_false, not_false_eq_true, h7, h8]
      refine Br.of (fun h9 => absurd h9 (by omega)) (fun h9 => ?_)
      simp (dsimp := false) (implicitDefEqProofs := false) (maxSteps := 1000000) (disch := omega) only [go_sem, Nat.reduceAdd, Nat.reduceMul, Nat.reduceEqDiff, Nat.reduceBEq, cond_true, cond_false, Nat.reduceLT, Nat.reduceLeDiff, Nat.reduceSub, Int.reduceToNat, Int.reduceLE, Int.reduceLT, Int.reduceEq, Int.reduceNe, Int.reduceAdd, Int.reduceSub, Int.reduceMul, Int.reduceNeg, UInt8.reduceToNat, decide_true, decide_false, decide_not, Int.cast_ofNat_Int, Int.natCast_add, Int.add_sub_cancel, Int.sub_add_cancel, Int.toNat_natCast, eq_self, not_true_eq_false, not_false_eq_true, h7, h8, h9]
      refine ih (i + 1, s', got ++ tks, er, pl, gk') _ _ (by simp only; omega) ⟨⟨F3, hL4, hF13, hF23, fun j hj => ?_⟩, hRJ, hgc4, hK4, by omega, hw4, by simp only; omega, by rw [htf, List.length_append]; exact hCf, fun h => by rw [fw1]; exact h, hcut, by simp only [List.length_append]; omega⟩ (by simp (dsimp := false) (implicitDefEqProofs := false) (maxSteps := 1000000) (disch := omega) only [go_sem, Nat.reduceAdd, Nat.reduceMul, Nat.reduceEqDiff, Nat.reduceBEq, cond_true, cond_false, Nat.reduceLT, Nat.reduceLeDiff, Nat.reduceSub, Int.reduceToNat, Int.reduceLE, Int.reduceLT, Int.reduceEq, Int.reduceNe, Int.reduceAdd, Int.reduceSub, Int.reduceMul, Int.reduceNeg, UInt8.reduceToNat, decide_true, decide_false, decide_not, Int.cast_ofNat_Int, Int.natCast_add, Int.add_sub_cancel, Int.sub_add_cancel, Int.toNat_natCast, eq_self, not_true_eq_false, not_false_eq_true, List.length_append])
      rcases hJ.who with h | h
      · rw [h] at hj; exact ⟨hgf j hj, (hF3 j hj).2⟩
      · rw [h] at hj
        cases hj
        refine ⟨fun hf => ?_, by rw [next_set]; omega⟩
        obtain ⟨cs, e2, hg⟩ := hL3.ro hf
        have := hw3.lt hg
        rw [next_set] at this
        omega
    · simp (dsimp := false) (implicitDefEqProofs := false) (maxSteps := 1000000) (disch := omega) only [go_sem, Nat.reduceAdd, Nat.reduceMul, Nat.reduceEqDiff, Nat.reduceBEq, cond_true, cond_false, Nat.reduceLT, Nat.reduceLeDiff, Nat.reduceSub, Int.reduceToNat, Int.reduceLE, Int.reduceLT, Int.reduceEq, Int.reduceNe, Int.reduceAdd, Int.reduceSub, Int.reduceMul, Int.reduceNeg, UInt8.reduceToNat, decide_true, decide_false, decide_not, Int.cast_ofNat_Int, Int.natCast_add, Int.add_sub_cancel, Int.sub_add_cancel, Int.toNat_natCast, eq_self, not_true_eq_false, not_false_eq_true, g6]
      have he : ¬ e = 0 := by omega
      rw [if_neg he] at hcut
      have hfin : cutAll l = (got, e, p) := by rw [cutAll, hcut]; exact if_neg he
      have hKf := hK
      have hgcf := hgc
      have hRf := hRg
      have hgll : got.length < 1000000000000000 := by omega
      refine CF.byW ((all_walk l.flatten (by omega) G _ (hGl.keep hKf)).callF func10 rfl rfl) ?_
      rw [← hlaw', hfin]
      rintro v M5 hw5 ⟨tk5, rfl, hR5, hO5⟩
      have hgc5 := hO5.keep _ _ hgcf id
      have hR5g := Row.own hRf hO5 fun _ _ => id
      have hK5 : Keep M' M5 := hKf.trans fun q o h => hO5.keep q o h id
      have hne5 : k + 1 ≠ M5.next := fun e => by have := hw5.lt hgc5; omega
      have hn5 := hO5.next
      simp (dsimp := false) (implicitDefEqProofs := false) (maxSteps := 1000000) (disch := omega) only [go_sem, Nat.reduceAdd, Nat.reduceMul, Nat.reduceEqDiff, Nat.reduceBEq, cond_true, cond_false, Nat.reduceLT, Nat.reduceLeDiff, Nat.reduceSub, Int.reduceToNat, Int.reduceLE, Int.reduceLT, Int.reduceEq, Int.reduceNe, Int.reduceAdd, Int.reduceSub, Int.reduceMul, Int.reduceNeg, UInt8.reduceToNat, decide_true, decide_false, decide_not, Int.cast_ofNat_Int, Int.natCast_add, Int.add_sub_cancel, Int.sub_add_cancel, Int.toNat_natCast, eq_self, not_true_eq_false, not_false_eq_true, Pl.v, hgc5, hne5, pl_eq]
      refine CF.at ((same_walk _ _ _ _ hgll hgll G _ (Row.al hR5g hw5 _) (Row.al hR5 hw5 _)).callF func11 rfl rfl) ?_
      simp (dsimp := false) (implicitDefEqProofs := false) (maxSteps := 1000000) (disch := omega) only [go_sem, Nat.reduceAdd, Nat.reduceMul, Nat.reduceEqDiff, Nat.reduceBEq, cond_true, cond_false, Nat.reduceLT, Nat.reduceLeDiff, Nat.reduceSub, Int.reduceToNat, Int.reduceLE, Int.reduceLT, Int.reduceEq, Int.reduceNe, Int.reduceAdd, Int.reduceSub, Int.reduceMul, Int.reduceNeg, UInt8.reduceToNat, decide_true, decide_false, decide_not, Int.cast_ofNat_Int, Int.natCast_add, Int.add_sub_cancel, Int.sub_add_cancel, Int.toNat_natCast, eq_self, not_true_eq_false, not_false_eq_true]
      exact endSays rfl (hK5.alloc hw (by omega) _) (by simp)
  · simp (dsimp := false) (implicitDefEqProofs := false) (maxSteps := 1000000) (disch := omega) only [go_sem, Nat.reduceAdd, Nat.reduceMul, Nat.reduceEqDiff, Nat.reduceBEq, cond_true, cond_false, Nat.reduceLT, Nat.reduceLeDiff, Nat.reduceSub, Int.reduceToNat, Int.reduceLE, Int.reduceLT, Int.reduceEq, Int.reduceNe, Int.reduceAdd, Int.reduceSub, Int.reduceMul, Int.reduceNeg, UInt8.reduceToNat, decide_true, decide_false, decide_not, Int.cast_ofNat_Int, Int.natCast_add, Int.add_sub_cancel, Int.sub_add_cancel, Int.toNat_natCast, eq_self, not_true_eq_false, not_false_eq_true, g5]
    refine Br.of (fun g6 => ?_) (fun g6 => ?_)
    rotate_left
    · simp (dsimp := false) (implicitDefEqProofs := false) (maxSteps := 1000000) (disch := omega) only [go_sem, Nat.reduceAdd, Nat.reduceMul, Nat.reduceEqDiff, Nat.reduceBEq, cond_true, cond_false, Nat.reduceLT, Nat.reduceLeDiff, Nat.reduceSub, Int.reduceToNat, Int.reduceLE, Int.reduceLT, Int.reduceEq, Int.reduceNe, Int.reduceAdd, Int.reduceSub, Int.reduceMul, Int.reduceNeg, UInt8.reduceToNat, decide_true, decide_false, decide_not, Int.cast_ofNat_Int, Int.natCast_add, Int.add_sub_cancel, Int.sub_add_cancel, Int.toNat_natCast, eq_self, not_true_eq_false, not_false_eq_true]
      have he : ¬ e = 0 := by omega
      rw [if_neg he] at hcut
      have hfin : cutAll l = (got, e, p) := by rw [cutAll, hcut]; exact if_neg he
      have hKf := hK
      have hgcf := hgc
      have hRf := hRg
      have hgll : got.length < 1000000000000000 := by omega
      refine CF.byW ((all_walk l.flatten (by omega) G _ (hGl.keep hKf)).callF func10 rfl rfl) ?_
      rw [← hlaw', hfin]
      rintro v M5 hw5 ⟨tk5, rfl, hR5, hO5⟩
      have hgc5 := hO5.keep _ _ hgcf id
      have hR5g := Row.own hRf hO5 fun _ _ => id
      have hK5 : Keep M' M5 := hKf.trans fun q o h => hO5.keep q o h id
      have hne5 : k + 1 ≠ M5.next := fun e => by have := hw5.lt hgc5; omega
      have hn5 := hO5.next
      simp (dsimp := false) (implicitDefEqProofs := false) (maxSteps := 1000000) (disch := omega) only [go_sem, Nat.reduceAdd, Nat.reduceMul, Nat.reduceEqDiff, Nat.reduceBEq, cond_true, cond_false, Nat.reduceLT, Nat.reduceLeDiff, Nat.reduceSub, Int.reduceToNat, Int.reduceLE, Int.reduceLT, Int.reduceEq, Int.reduceNe, Int.reduceAdd, Int.reduceSub, Int.reduceMul, Int.reduceNeg, UInt8.reduceToNat, decide_true, decide_false, decide_not, Int.cast_ofNat_Int, Int.natCast_add, Int.add_sub_cancel, Int.sub_add_cancel, Int.toNat_natCast, eq_self, not_true_eq_false, not_false_eq_true, Pl.v, hgc5, hne5, pl_eq]
      refine CF.at ((same_walk _ _ _ _ hgll hgll G _ (Row.al hR5g hw5 _) (Row.al hR5 hw5 _)).callF func11 rfl rfl) ?_
      simp (dsimp := false) (implicitDefEqProofs := false) (maxSteps := 1000000) (disch := omega) only [go_sem, Nat.reduceAdd, Nat.reduceMul, Nat.reduceEqDiff, Nat.reduceBEq, cond_true, cond_false, Nat.reduceLT, Nat.reduceLeDiff, Nat.reduceSub, Int.reduceToNat, Int.reduceLE, Int.reduceLT, Int.reduceEq, Int.reduceNe, Int.reduceAdd, Int.reduceSub, Int.reduceMul, Int.reduceNeg, UInt8.reduceToNat, decide_true, decide_false, decide_not, Int.cast_ofNat_Int, Int.natCast_add, Int.add_sub_cancel, Int.sub_add_cancel, Int.toNat_natCast, eq_self, not_true_eq_false, not_false_eq_true]
      exact endSays rfl (hK5.alloc hw (by omega) _) (by simp)
    obtain rfl : e = 0 := by omega
    have hwr := he0 rfl
    rw [if_pos rfl, List.drop_eq_nil_of_le (by omega), cutF] at hcut
    have hCt := hC.closeToks hwr
    obtain ⟨⟨N, c1, c2, c3, c4⟩, c5, c6⟩ := id hC
    have hfl2 := flatLe l i
    have hfin : cutAll l = (got ++ s.close.2.1, s.close.2.2.1, s.close.2.2.2) := by rw [cutAll, hcut]; exact if_pos rfl
    simp (dsimp := false) (implicitDefEqProofs := false) (maxSteps := 1000000) (disch := omega) only [go_sem, Nat.reduceAdd, Nat.reduceMul, Nat.reduceEqDiff, Nat.reduceBEq, cond_true, cond_false, Nat.reduceLT, Nat.reduceLeDiff, Nat.reduceSub, Int.reduceToNat, Int.reduceLE, Int.reduceLT, Int.reduceEq, Int.reduceNe, Int.reduceAdd, Int.reduceSub, Int.reduceMul, Int.reduceNeg, UInt8.reduceToNat, decide_true, decide_false, decide_not, Int.cast_ofNat_Int, Int.natCast_add, Int.add_sub_cancel, Int.sub_add_cancel, Int.toNat_natCast, eq_self, not_true_eq_false, not_false_eq_true]
    refine CF.byW ((close_walk k s F G M2 N (hGl.keep hK) hL2 (by omega) c1 c2).callF func9 rfl rfl) ?_
    generalize s.close = X at hCt hfin
    obtain ⟨s', tks, er, pl⟩ := X
    simp only at hCt hfin ⊢
    rintro v M3 hw3 ⟨tk3, F3, rfl, hL3, hR3, hD3, hO3⟩
    have hgc3 := hO3.keep _ _ hgc hF2
    have hRg3 := Row.own hRg hO3 fun j e => (hF3 j e).1
    have hK3 : Keep M' M3 := fun q o h => hO3.keep q o (hK q o h) fun hf => by have := hF1 q hf; have := hw.lt h; omega
    have hn3 := hO3.next
    have hlt : k + 1 < M2.next := hw2.lt hgc
    simp (dsimp := false) (implicitDefEqProofs := false) (maxSteps := 1000000) (disch := omega) only [go_sem, Nat.reduceAdd, Nat.reduceMul, Nat.reduceEqDiff, Nat.reduceBEq, cond_true, cond_false, Nat.reduceLT, Nat.reduceLeDiff, Nat.reduceSub, Int.reduceToNat, Int.reduceLE, Int.reduceLT, Int.reduceEq, Int.reduceNe, Int.reduceAdd, Int.reduceSub, Int.reduceMul, Int.reduceNeg, UInt8.reduceToNat, decide_true, decide_false, decide_not, Int.cast_ofNat_Int, Int.natCast_add, Int.add_sub_cancel, Int.sub_add_cancel, Int.toNat_natCast, eq_self, not_true_eq_false, not_false_eq_true, Pl.v, hgc3]
    have hgne : gk ≠ some (k + 1) := hRg.ne hgc (by decide)
    have htne : tk3 ≠ some (k + 1) := hR3.ne hgc3 (by decide)
    have hwA : WF (M3.set (k + 1) (.cells [.int .i64 pl.at', .int .i64 pl.ln, .int .i64 pl.col] 30 0 false)) := WF.set hw3 (by omega)
    refine O1_appendG (M := M3.set (k + 1) _) (Row.away hRg3 hgne _) (tkCells_length _) q_app27_27 (news_sl (Row.away hR3 htne _) (tkCells_length _) (by omega)) (tkCells_length _) (by omega) (by omega) (by omega) ?_
    intro E M4 gk' hE hJ
    have hJO := hJ.own hwA
    have hJn := hJ.next
    rw [next_set] at hJn
    have hgcf : M4.get (k + 1) = some (.cells [.int .i64 pl.at', .int .i64 pl.ln, .int .i64 pl.col] 30 0 false) := hJO.keep _ _ get_set hgne
    have hKf : Keep M' M4 := fun q o h => by
      have hq := hw.lt h
      refine hJO.keep q o ?_ fun e => ?_
      · rw [get_set' (by omega)]; exact hK3 q o h
      · have := (hF3 q e).2; omega
    have hRf := hJ.row
    rw [show tkCells got ++ tkCells tks = tkCells (got ++ tks) by simp [tkCells]] at hRf
    have hll : got.length + tks.length = (got ++ tks).length := by simp
    have hgll : (got ++ tks).length < 1000000000000000 := by rw [List.length_append]; omega
    simp (dsimp := false) (implicitDefEqProofs := false) (maxSteps := 1000000) (disch := omega) only [go_sem, Nat.reduceAdd, Nat.reduceMul, Nat.reduceEqDiff, Nat.reduceBEq, cond_true, cond_false, Nat.reduceLT, Nat.reduceLeDiff, Nat.reduceSub, Int.reduceToNat, Int.reduceLE, Int.reduceLT, Int.reduceEq, Int.reduceNe, Int.reduceAdd, Int.reduceSub, Int.reduceMul, Int.reduceNeg, UInt8.reduceToNat, decide_true, decide_false, decide_not, Int.cast_ofNat_Int, Int.natCast_add, Int.add_sub_cancel, Int.sub_add_cancel, Int.toNat_natCast, eq_self, not_true_eq_false, not_false_eq_true, hE]
    rw [hll]
    refine CF.byW ((all_walk l.flatten (by omega) G _ (hGl.keep hKf)).callF func10 rfl rfl) ?_
    rw [← hlaw', hfin]
    rintro v M5 hw5 ⟨tk5, rfl, hR5, hO5⟩
    have hgc5 := hO5.keep _ _ hgcf id
    have hR5g := Row.own hRf hO5 fun _ _ => id
    have hK5 : Keep M' M5 := hKf.trans fun q o h => hO5.keep q o h id
    have hne5 : k + 1 ≠ M5.next := fun e => by have := hw5.lt hgc5; omega
    have hn5 := hO5.next
    simp (dsimp := false) (implicitDefEqProofs := false) (maxSteps := 1000000) (disch := omega) only [go_sem, Nat.reduceAdd, Nat.reduceMul, Nat.reduceEqDiff, Nat.reduceBEq, cond_true, cond_false, Nat.reduceLT, Nat.reduceLeDiff, Nat.reduceSub, Int.reduceToNat, Int.reduceLE, Int.reduceLT, Int.reduceEq, Int.reduceNe, Int.reduceAdd, Int.reduceSub, Int.reduceMul, Int.reduceNeg, UInt8.reduceToNat, decide_true, decide_false, decide_not, Int.cast_ofNat_Int, Int.natCast_add, Int.add_sub_cancel, Int.sub_add_cancel, Int.toNat_natCast, eq_self, not_true_eq_false, not_false_eq_true, Pl.v, hgc5, hne5, pl_eq]
    refine CF.at ((same_walk _ _ _ _ hgll hgll G _ (Row.al hR5g hw5 _) (Row.al hR5 hw5 _)).callF func11 rfl rfl) ?_
    simp (dsimp := false) (implicitDefEqProofs := false) (maxSteps := 1000000) (disch := omega) only [go_sem, Nat.reduceAdd, Nat.reduceMul, Nat.reduceEqDiff, Nat.reduceBEq, cond_true, cond_false, Nat.reduceLT, Nat.reduceLeDiff, Nat.reduceSub, Int.reduceToNat, Int.reduceLE, Int.reduceLT, Int.reduceEq, Int.reduceNe, Int.reduceAdd, Int.reduceSub, Int.reduceMul, Int.reduceNeg, UInt8.reduceToNat, decide_true, decide_false, decide_not, Int.cast_ofNat_Int, Int.natCast_add, Int.add_sub_cancel, Int.sub_add_cancel, Int.toNat_natCast, eq_self, not_true_eq_false, not_false_eq_true]
    exact endSays rfl (hK5.alloc hw (by omega) _) (by simp)
end Go.Proofs.Tryd
