/-
  Walks of the seat of LexCuts, part 24: scan.All.
-/
import Derived.Test.YtpljlblmagodlaaDoorW23
set_option linter.unusedVariables false
set_option linter.unusedSimpArgs false
set_option linter.unusedSimpArgs false
set_option maxRecDepth 100000
set_option maxHeartbeats 4000000
namespace Go.Proofs.Tryd
open Go Go.AL
/-- How many bytes of blanks and line ends stand at a place. -/
def gap (l : List UInt8) (i : Nat) : Nat := (l.drop i).length - (trimL [32, 9, 13, 10] (l.drop i)).length
/-- The token's text. -/
def tokT (kind : Int) (x : List UInt8) : List UInt8 := if kind = 7 then trimR [32, 9, 13] x.length x else x
/-- scan.All, from a place on. -/
def allN (l : List UInt8) : Nat → Nat → Pl → List Tk → List Tk × Nat × Pl
  | 0, _, _, out => (out, 0, P0)
  | n + 1, i, here, out =>
    let j := i + gap l i
    let h1 := adv here (seg l i j)
    if j = l.length then (out, 0, P0)
    else if (oneF l j).2.2 ≠ 0 then (out, (oneF l j).2.2.toNat, adv h1 (seg l j (oneF l j).2.1))
    else allN l n (oneF l j).2.1 (adv h1 (seg l j (oneF l j).2.1)) (out ++ [⟨(oneF l j).1.toNat, tokT (oneF l j).1 (seg l j (oneF l j).2.1), h1, (seg l i j).count 10⟩])
def allF (l : List UInt8) : List Tk × Nat × Pl := allN l (l.length + 1) 0 ⟨0, 1, 1⟩ []
def AllAns (M : Mem) (x : List Tk × Nat × Pl) (v : Value) (M' : Mem) : Prop :=
  ∃ tk, v = .tuple #[sl tk x.1.length, .int .i64 x.2.1, x.2.2.v] ∧ Row M' tk (tkCells x.1) 39 ∧ Own M M' (fun _ => False) (fun j => tk = some j)
theorem trimL_le (c l : List UInt8) : (trimL c l).length ≤ l.length := by
  unfold trimL
  exact (List.dropWhile_sublist _).length_le
theorem gap_le (l : List UInt8) (i : Nat) (h : i ≤ l.length) : i + gap l i ≤ l.length := by
  have := trimL_le [32, 9, 13, 10] (l.drop i)
  unfold gap
  simp only [List.length_drop] at this ⊢
  omega
theorem Pl.lt.ok {p : Pl} {N : Nat} (h : p.lt N) (hN : N < 1000000000) : p.ok := by
  obtain ⟨h1, h2, h3⟩ := h
  exact ⟨by omega, by omega, by omega⟩
theorem all_walk (l : List UInt8) (hl : l.length < 900000000) (G : Nat) (M : Mem) (hGl : Glob G M) :
    ACalls prog G 10 [.string (bs l)] M (AllAns M (allF l)) := by
  refine ACalls.walk (N := 89) (rs := [.tmp 2, .tmp 3, .cell 4 30]) func10 rfl rfl (by kernel_rfl) (by kernel_rfl) fun hw => ?_
  simp (dsimp := false) (implicitDefEqProofs := false) (maxSteps := 1000000) (disch := omega) only [go_sem, Nat.reduceAdd, Nat.reduceMul, Nat.reduceEqDiff, Nat.reduceBEq, cond_true, cond_false, Nat.reduceLT, Nat.reduceLeDiff, Nat.reduceSub, Int.reduceToNat, Int.reduceLE, Int.reduceLT, Int.reduceEq, Int.reduceNe, Int.reduceAdd, Int.reduceSub, Int.reduceMul, Int.reduceNeg, UInt8.reduceToNat, decide_true, decide_false, decide_not, Int.cast_ofNat_Int, Int.natCast_add, Int.add_sub_cancel, Int.sub_add_cancel, Int.toNat_natCast, eq_self, not_true_eq_false, not_false_eq_true]
  refine CF.same start_same ?_
  have hl' : l.length < 1000000000 := by omega
  simp (dsimp := false) (implicitDefEqProofs := false) (maxSteps := 1000000) (disch := omega) only [go_sem, Nat.reduceAdd, Nat.reduceMul, Nat.reduceEqDiff, Nat.reduceBEq, cond_true, cond_false, Nat.reduceLT, Nat.reduceLeDiff, Nat.reduceSub, Int.reduceToNat, Int.reduceLE, Int.reduceLT, Int.reduceEq, Int.reduceNe, Int.reduceAdd, Int.reduceSub, Int.reduceMul, Int.reduceNeg, UInt8.reduceToNat, decide_true, decide_false, decide_not, Int.cast_ofNat_Int, Int.natCast_add, Int.add_sub_cancel, Int.sub_add_cancel, Int.toNat_natCast, eq_self, not_true_eq_false, not_false_eq_true]
  refine LP.by (fun a : Nat × Nat × Pl × List Tk × Option Nat => [(0, .string (bs l)), (2, .slice none 0 0), (3, .int .i64 0), (4, .pointer (some ⟨M.next, 0, none⟩)), (5, sl a.2.2.2.2 a.2.2.2.1.length), (6, .pointer (some ⟨M.next + 1, 0, none⟩)), (7, .int .i64 a.2.1)])
    (fun a M' => M'.get M.next = some (.cells [.int .i64 0, .int .i64 0, .int .i64 0] 30 0 false) ∧ M'.get (M.next + 1) = some (.cells [.int .i64 a.2.2.1.at', .int .i64 a.2.2.1.ln, .int .i64 a.2.2.1.col] 30 0 false) ∧
      Row M' a.2.2.2.2 (tkCells a.2.2.2.1) 39 ∧ Own M M' (fun _ => False) (fun j => a.2.2.2.2 = some j) ∧ M.next + 2 ≤ M'.next ∧ WF M' ∧ allF l = allN l a.1 a.2.1 a.2.2.1 a.2.2.2.1 ∧ a.2.1 ≤ l.length ∧ l.length < a.1 + a.2.1 ∧ a.2.2.1.lt a.2.1 ∧ a.2.2.2.1.length ≤ a.2.1)
    (fun a => a.1) (l.length + 1, 0, ⟨0, 1, 1⟩, [], none) (by kernel_rfl) ?_ (by simp (dsimp := false) (implicitDefEqProofs := false) (maxSteps := 1000000) (disch := omega) only [go_sem, Nat.reduceAdd, Nat.reduceMul, Nat.reduceEqDiff, Nat.reduceBEq, cond_true, cond_false, Nat.reduceLT, Nat.reduceLeDiff, Nat.reduceSub, Int.reduceToNat, Int.reduceLE, Int.reduceLT, Int.reduceEq, Int.reduceNe, Int.reduceAdd, Int.reduceSub, Int.reduceMul, Int.reduceNeg, UInt8.reduceToNat, decide_true, decide_false, decide_not, Int.cast_ofNat_Int, Int.natCast_add, Int.add_sub_cancel, Int.sub_add_cancel, Int.toNat_natCast, eq_self, not_true_eq_false, not_false_eq_true, sl_none]) ?_
  · refine ⟨by simp (dsimp := false) (implicitDefEqProofs := false) (maxSteps := 1000000) (disch := omega) only [go_sem, Nat.reduceAdd, Nat.reduceMul, Nat.reduceEqDiff, Nat.reduceBEq, cond_true, cond_false, Nat.reduceLT, Nat.reduceLeDiff, Nat.reduceSub, Int.reduceToNat, Int.reduceLE, Int.reduceLT, Int.reduceEq, Int.reduceNe, Int.reduceAdd, Int.reduceSub, Int.reduceMul, Int.reduceNeg, UInt8.reduceToNat, decide_true, decide_false, decide_not, Int.cast_ofNat_Int, Int.natCast_add, Int.add_sub_cancel, Int.sub_add_cancel, Int.toNat_natCast, eq_self, not_true_eq_false, not_false_eq_true], by simp (dsimp := false) (implicitDefEqProofs := false) (maxSteps := 1000000) (disch := omega) only [go_sem, Nat.reduceAdd, Nat.reduceMul, Nat.reduceEqDiff, Nat.reduceBEq, cond_true, cond_false, Nat.reduceLT, Nat.reduceLeDiff, Nat.reduceSub, Int.reduceToNat, Int.reduceLE, Int.reduceLT, Int.reduceEq, Int.reduceNe, Int.reduceAdd, Int.reduceSub, Int.reduceMul, Int.reduceNeg, UInt8.reduceToNat, decide_true, decide_false, decide_not, Int.cast_ofNat_Int, Int.natCast_add, Int.add_sub_cancel, Int.sub_add_cancel, Int.toNat_natCast, eq_self, not_true_eq_false, not_false_eq_true], rfl, .al hw (.al hw ((Own.refl M (fun _ => False)).to fun j h => by cases h)), by simp only [next_alloc]; omega, WF.alloc (WF.alloc hw), rfl, Nat.zero_le _, by simp, ⟨by simp, by simp, by simp⟩, by simp⟩
  rintro ⟨n, i, here, out, tk⟩ M1 ⟨g1, g2, hT, hO, hn1, hw1, hst, hi, hn, hp, ho⟩ ih
  simp only at g1 g2 hT hO hst hi hn hp ho
  obtain ⟨n, rfl⟩ : ∃ m, n = m + 1 := ⟨n - 1, by omega⟩
  have hgap := gap_le l i hi
  have hadv := adv_lt hp (seg l i (i + gap l i))
  rw [seg_length hgap] at hadv
  have hgd : i + (i + gap l i - i) = i + gap l i := by omega
  rw [hgd] at hadv
  rw [allN] at hst
  have hok := hp.ok (by omega)
  have htl := trimL_le [32, 9, 13, 10] (l.drop i)
  have hgN : ((l.drop i).length : Int) - (trimL [32, 9, 13, 10] (l.drop i)).length = gap l i := by unfold gap; omega
  have hj : ((i : Int) + (gap l i : Nat)).toNat = i + gap l i := by omega
  simp (dsimp := false) (implicitDefEqProofs := false) (maxSteps := 1000000) (disch := omega) only [go_sem, Nat.reduceAdd, Nat.reduceMul, Nat.reduceEqDiff, Nat.reduceBEq, cond_true, cond_false, Nat.reduceLT, Nat.reduceLeDiff, Nat.reduceSub, Int.reduceToNat, Int.reduceLE, Int.reduceLT, Int.reduceEq, Int.reduceNe, Int.reduceAdd, Int.reduceSub, Int.reduceMul, Int.reduceNeg, UInt8.reduceToNat, decide_true, decide_false, decide_not, Int.cast_ofNat_Int, Int.natCast_add, Int.add_sub_cancel, Int.sub_add_cancel, Int.toNat_natCast, eq_self, not_true_eq_false, not_false_eq_true]
  refine DR.way (pf := PF.none) [0,1,2,3,4,5,6,7,8,9,10] checked.mixed PF.none_ok (by kernel_rfl) ?_
  simp (dsimp := false) (implicitDefEqProofs := false) (maxSteps := 1000000) (disch := omega) only [go_sem, Nat.reduceAdd, Nat.reduceMul, Nat.reduceEqDiff, Nat.reduceBEq, cond_true, cond_false, Nat.reduceLT, Nat.reduceLeDiff, Nat.reduceSub, Int.reduceToNat, Int.reduceLE, Int.reduceLT, Int.reduceEq, Int.reduceNe, Int.reduceAdd, Int.reduceSub, Int.reduceMul, Int.reduceNeg, UInt8.reduceToNat, decide_true, decide_false, decide_not, Int.cast_ofNat_Int, Int.natCast_add, Int.add_sub_cancel, Int.sub_add_cancel, Int.toNat_natCast, eq_self, not_true_eq_false, not_false_eq_true, Option.isNone_none]
  refine ⟨by omega, by omega, CF.same (trimL_same [32, 9, 13, 10] (l.drop i) (by simp; omega) (by simp) (by simp) (by decide)) ?_⟩
  simp (dsimp := false) (implicitDefEqProofs := false) (maxSteps := 1000000) (disch := omega) only [go_sem, Nat.reduceAdd, Nat.reduceMul, Nat.reduceEqDiff, Nat.reduceBEq, cond_true, cond_false, Nat.reduceLT, Nat.reduceLeDiff, Nat.reduceSub, Int.reduceToNat, Int.reduceLE, Int.reduceLT, Int.reduceEq, Int.reduceNe, Int.reduceAdd, Int.reduceSub, Int.reduceMul, Int.reduceNeg, UInt8.reduceToNat, decide_true, decide_false, decide_not, Int.cast_ofNat_Int, Int.natCast_add, Int.add_sub_cancel, Int.sub_add_cancel, Int.toNat_natCast, eq_self, not_true_eq_false, not_false_eq_true, hgN, hj]
  refine ⟨by omega, CF.same (strCount_same (seg l i (i + gap l i))) ?_⟩
  have hne1 : M.next + 1 ≠ M.next := by omega
  have hne2 : M.next ≠ M.next + 1 := by omega
  have hc1 : (seg l i (i + gap l i)).count 10 ≤ (seg l i (i + gap l i)).length := List.count_le_length
  have hsl1 := seg_length (i := i) hgap
  simp (dsimp := false) (implicitDefEqProofs := false) (maxSteps := 1000000) (disch := omega) only [go_sem, Nat.reduceAdd, Nat.reduceMul, Nat.reduceEqDiff, Nat.reduceBEq, cond_true, cond_false, Nat.reduceLT, Nat.reduceLeDiff, Nat.reduceSub, Int.reduceToNat, Int.reduceLE, Int.reduceLT, Int.reduceEq, Int.reduceNe, Int.reduceAdd, Int.reduceSub, Int.reduceMul, Int.reduceNeg, UInt8.reduceToNat, decide_true, decide_false, decide_not, Int.cast_ofNat_Int, Int.natCast_add, Int.add_sub_cancel, Int.sub_add_cancel, Int.toNat_natCast, eq_self, not_true_eq_false, not_false_eq_true]
  refine DR.way (pf := PF.none) [0,1,2,3,4,5,6,8,9,10,7,11,12] checked.mixed PF.none_ok (by kernel_rfl) ?_
  simp (dsimp := false) (implicitDefEqProofs := false) (maxSteps := 1000000) (disch := omega) only [go_sem, Nat.reduceAdd, Nat.reduceMul, Nat.reduceEqDiff, Nat.reduceBEq, cond_true, cond_false, Nat.reduceLT, Nat.reduceLeDiff, Nat.reduceSub, Int.reduceToNat, Int.reduceLE, Int.reduceLT, Int.reduceEq, Int.reduceNe, Int.reduceAdd, Int.reduceSub, Int.reduceMul, Int.reduceNeg, UInt8.reduceToNat, decide_true, decide_false, decide_not, Int.cast_ofNat_Int, Int.natCast_add, Int.add_sub_cancel, Int.sub_add_cancel, Int.toNat_natCast, eq_self, not_true_eq_false, not_false_eq_true, Option.isNone_none, g2, hj]
  refine ⟨by omega, CF.same (adv_same here (seg l i (i + gap l i)) hok (by omega)) ?_⟩
  simp (dsimp := false) (implicitDefEqProofs := false) (maxSteps := 1000000) (disch := omega) only [go_sem, Nat.reduceAdd, Nat.reduceMul, Nat.reduceEqDiff, Nat.reduceBEq, cond_true, cond_false, Nat.reduceLT, Nat.reduceLeDiff, Nat.reduceSub, Int.reduceToNat, Int.reduceLE, Int.reduceLT, Int.reduceEq, Int.reduceNe, Int.reduceAdd, Int.reduceSub, Int.reduceMul, Int.reduceNeg, UInt8.reduceToNat, decide_true, decide_false, decide_not, Int.cast_ofNat_Int, Int.natCast_add, Int.add_sub_cancel, Int.sub_add_cancel, Int.toNat_natCast, eq_self, not_true_eq_false, not_false_eq_true, g2, Pl.v, hne1, hne2]
  have hh1 : adv here (seg l i (i + gap l i)) = adv here (seg l i (i + gap l i)) := rfl
  generalize adv here (seg l i (i + gap l i)) = h1 at hh1 hst hadv ⊢
  generalize hjj : i + gap l i = j at *
  have hji : ((i : Int) + (gap l i : Nat)) = (j : Int) := by omega
  rw [hji]
  have hw2 : WF (M1.set (M.next + 1) (.cells [.int .i64 h1.at', .int .i64 h1.ln, .int .i64 h1.col] 30 0 false)) := WF.set hw1 (by omega)
  have hO2 : Own M (M1.set (M.next + 1) (.cells [.int .i64 h1.at', .int .i64 h1.ln, .int .i64 h1.col] 30 0 false)) (fun _ => False) (fun j => tk = some j) := .st hw (.inr (by omega)) hO
  have hT2 : Row (M1.set (M.next + 1) (.cells [.int .i64 h1.at', .int .i64 h1.ln, .int .i64 h1.col] 30 0 false)) tk (tkCells out) 39 := Row.away hT (hT.ne g2 (by decide)) _
  refine Br.of (fun h2 => ?_) (fun h2 => ?_)
  · simp (dsimp := false) (implicitDefEqProofs := false) (maxSteps := 1000000) (disch := omega) only [go_sem, Nat.reduceAdd, Nat.reduceMul, Nat.reduceEqDiff, Nat.reduceBEq, cond_true, cond_false, Nat.reduceLT, Nat.reduceLeDiff, Nat.reduceSub, Int.reduceToNat, Int.reduceLE, Int.reduceLT, Int.reduceEq, Int.reduceNe, Int.reduceAdd, Int.reduceSub, Int.reduceMul, Int.reduceNeg, UInt8.reduceToNat, decide_true, decide_false, decide_not, Int.cast_ofNat_Int, Int.natCast_add, Int.add_sub_cancel, Int.sub_add_cancel, Int.toNat_natCast, eq_self, not_true_eq_false, not_false_eq_true, g1, hne1, hne2]
    rw [if_pos (by omega)] at hst
    rw [hst]
    refine endAll ⟨tk, rfl, Row.away hT2 (hT.ne g1 (by decide)) _, .st hw (.inr (Nat.le_refl _)) hO2⟩
  rw [if_neg (by omega)] at hst
  have hjl : j < l.length := by omega
  obtain ⟨o1, o2, o3, o4, o5⟩ := oneF_ok l j hjl
  simp (dsimp := false) (implicitDefEqProofs := false) (maxSteps := 1000000) (disch := omega) only [go_sem, Nat.reduceAdd, Nat.reduceMul, Nat.reduceEqDiff, Nat.reduceBEq, cond_true, cond_false, Nat.reduceLT, Nat.reduceLeDiff, Nat.reduceSub, Int.reduceToNat, Int.reduceLE, Int.reduceLT, Int.reduceEq, Int.reduceNe, Int.reduceAdd, Int.reduceSub, Int.reduceMul, Int.reduceNeg, UInt8.reduceToNat, decide_true, decide_false, decide_not, Int.cast_ofNat_Int, Int.natCast_add, Int.add_sub_cancel, Int.sub_add_cancel, Int.toNat_natCast, eq_self, not_true_eq_false, not_false_eq_true]
  refine CF.at ((one_walk l j hl' hjl G _ (hGl.keep fun k o h => hO2.keep k o h id)).callF func21 rfl rfl) ?_
  have hte : tri (oneF l j) = .tuple #[.int .u8 (oneF l j).1, .int .i64 (oneF l j).2.1, .int .i64 (oneF l j).2.2] := rfl
  rw [hte]
  generalize oneF l j = x at *
  obtain ⟨kd, e, er⟩ := x
  simp only at o1 o2 o3 o4 o5 hst hte
  obtain ⟨kn, rfl⟩ : ∃ kn : Nat, kd = kn := ⟨kd.toNat, by omega⟩
  rw [Int.toNat_natCast] at hst
  have hadv2 := adv_lt hadv (seg l j e)
  have hsl2 := seg_length (i := j) o2
  rw [hsl2, show j + (e - j) = e by omega] at hadv2
  have hok2 := hadv.ok (by omega)
  simp (dsimp := false) (implicitDefEqProofs := false) (maxSteps := 1000000) (disch := omega) only [go_sem, Nat.reduceAdd, Nat.reduceMul, Nat.reduceEqDiff, Nat.reduceBEq, cond_true, cond_false, Nat.reduceLT, Nat.reduceLeDiff, Nat.reduceSub, Int.reduceToNat, Int.reduceLE, Int.reduceLT, Int.reduceEq, Int.reduceNe, Int.reduceAdd, Int.reduceSub, Int.reduceMul, Int.reduceNeg, UInt8.reduceToNat, decide_true, decide_false, decide_not, Int.cast_ofNat_Int, Int.natCast_add, Int.add_sub_cancel, Int.sub_add_cancel, Int.toNat_natCast, eq_self, not_true_eq_false, not_false_eq_true]
  refine Br.of (fun h3 => ?_) (fun h3 => ?_)
  rotate_left
  · simp (dsimp := false) (implicitDefEqProofs := false) (maxSteps := 1000000) (disch := omega) only [go_sem, Nat.reduceAdd, Nat.reduceMul, Nat.reduceEqDiff, Nat.reduceBEq, cond_true, cond_false, Nat.reduceLT, Nat.reduceLeDiff, Nat.reduceSub, Int.reduceToNat, Int.reduceLE, Int.reduceLT, Int.reduceEq, Int.reduceNe, Int.reduceAdd, Int.reduceSub, Int.reduceMul, Int.reduceNeg, UInt8.reduceToNat, decide_true, decide_false, decide_not, Int.cast_ofNat_Int, Int.natCast_add, Int.add_sub_cancel, Int.sub_add_cancel, Int.toNat_natCast, eq_self, not_true_eq_false, not_false_eq_true]
    rw [if_pos h3] at hst
    refine DR.way (pf := PF.none) [0,1,2,3,4,5,6,7,8,9,10] checked.mixed PF.none_ok (by kernel_rfl) ?_
    simp (dsimp := false) (implicitDefEqProofs := false) (maxSteps := 1000000) (disch := omega) only [go_sem, Nat.reduceAdd, Nat.reduceMul, Nat.reduceEqDiff, Nat.reduceBEq, cond_true, cond_false, Nat.reduceLT, Nat.reduceLeDiff, Nat.reduceSub, Int.reduceToNat, Int.reduceLE, Int.reduceLT, Int.reduceEq, Int.reduceNe, Int.reduceAdd, Int.reduceSub, Int.reduceMul, Int.reduceNeg, UInt8.reduceToNat, decide_true, decide_false, decide_not, Int.cast_ofNat_Int, Int.natCast_add, Int.add_sub_cancel, Int.sub_add_cancel, Int.toNat_natCast, eq_self, not_true_eq_false, not_false_eq_true, Option.isNone_none, hne1, hne2]
    refine ⟨by omega, CF.same (adv_same h1 (seg l j e) hok2 (by omega)) ?_⟩
    simp (dsimp := false) (implicitDefEqProofs := false) (maxSteps := 1000000) (disch := omega) only [go_sem, Nat.reduceAdd, Nat.reduceMul, Nat.reduceEqDiff, Nat.reduceBEq, cond_true, cond_false, Nat.reduceLT, Nat.reduceLeDiff, Nat.reduceSub, Int.reduceToNat, Int.reduceLE, Int.reduceLT, Int.reduceEq, Int.reduceNe, Int.reduceAdd, Int.reduceSub, Int.reduceMul, Int.reduceNeg, UInt8.reduceToNat, decide_true, decide_false, decide_not, Int.cast_ofNat_Int, Int.natCast_add, Int.add_sub_cancel, Int.sub_add_cancel, Int.toNat_natCast, eq_self, not_true_eq_false, not_false_eq_true, g1, Pl.v, hne1, hne2]
    rw [hst]
    refine endAll ⟨tk, ?_, Row.away hT2 (hT.ne g1 (by decide)) _, .st hw (.inr (Nat.le_refl _)) hO2⟩
    have he : ((er.toNat : Nat) : Int) = er := by omega
    simp only [Pl.v, he]
  rw [if_neg (by simpa using h3)] at hst
  have hT3 : ∀ o, Row (Mem.alloc (M1.set (M.next + 1) (.cells [.int .i64 h1.at', .int .i64 h1.ln, .int .i64 h1.col] 30 0 false)) o) tk (tkCells out) 39 := fun o => hT2.keep fun q ob _ e' => by
    have := hw2.lt e'
    rw [get_alloc' (by omega)]; exact e'
  have o5' := o5 h3
  simp (dsimp := false) (implicitDefEqProofs := false) (maxSteps := 1000000) (disch := omega) only [go_sem, Nat.reduceAdd, Nat.reduceMul, Nat.reduceEqDiff, Nat.reduceBEq, cond_true, cond_false, Nat.reduceLT, Nat.reduceLeDiff, Nat.reduceSub, Int.reduceToNat, Int.reduceLE, Int.reduceLT, Int.reduceEq, Int.reduceNe, Int.reduceAdd, Int.reduceSub, Int.reduceMul, Int.reduceNeg, UInt8.reduceToNat, decide_true, decide_false, decide_not, Int.cast_ofNat_Int, Int.natCast_add, Int.add_sub_cancel, Int.sub_add_cancel, Int.toNat_natCast, eq_self, not_true_eq_false, not_false_eq_true]
  refine ⟨by omega, Br.of (fun h4 => ?_) (fun h4 => ?_)⟩
  · simp (dsimp := false) (implicitDefEqProofs := false) (maxSteps := 1000000) (disch := omega) only [go_sem, Nat.reduceAdd, Nat.reduceMul, Nat.reduceEqDiff, Nat.reduceBEq, cond_true, cond_false, Nat.reduceLT, Nat.reduceLeDiff, Nat.reduceSub, Int.reduceToNat, Int.reduceLE, Int.reduceLT, Int.reduceEq, Int.reduceNe, Int.reduceAdd, Int.reduceSub, Int.reduceMul, Int.reduceNeg, UInt8.reduceToNat, decide_true, decide_false, decide_not, Int.cast_ofNat_Int, Int.natCast_add, Int.add_sub_cancel, Int.sub_add_cancel, Int.toNat_natCast, eq_self, not_true_eq_false, not_false_eq_true]
    refine CF.same (trimR_same [32, 9, 13] (seg l j e) (by omega) (by simp) (by simp) (by decide)) ?_
    have ht : trimR [32, 9, 13] (seg l j e).length (seg l j e) = tokT kn (seg l j e) := by rw [tokT, if_pos h4]
    rw [ht]
    simp (dsimp := false) (implicitDefEqProofs := false) (maxSteps := 1000000) (disch := omega) only [go_sem, Nat.reduceAdd, Nat.reduceMul, Nat.reduceEqDiff, Nat.reduceBEq, cond_true, cond_false, Nat.reduceLT, Nat.reduceLeDiff, Nat.reduceSub, Int.reduceToNat, Int.reduceLE, Int.reduceLT, Int.reduceEq, Int.reduceNe, Int.reduceAdd, Int.reduceSub, Int.reduceMul, Int.reduceNeg, UInt8.reduceToNat, decide_true, decide_false, decide_not, Int.cast_ofNat_Int, Int.natCast_add, Int.add_sub_cancel, Int.sub_add_cancel, Int.toNat_natCast, eq_self, not_true_eq_false, not_false_eq_true, hne1, hne2]
    refine O1_append (M := Mem.alloc (M1.set (M.next + 1) _) (.cells (Tk.cells ⟨kn, tokT kn (seg l j e), h1, (seg l i j).count 10⟩) 39 0 false)) (news := Tk.cells ⟨kn, tokT kn (seg l j e), h1, (seg l i j).count 10⟩) (hT3 _) (tkCells_length _) q_app27_27 (by rw [news_slice, get_alloc (M := M1.set (M.next + 1) _) (j := M1.next) rfl, newsO_fits (by simp [Tk.cells])]; rfl) (by omega) (by omega) (by omega) (by omega) ?_
    intro E M2 hE hG
    have k1 := hG.same M.next (by rw [next_alloc, next_set]; omega) (hT.ne g1 (by decide))
    rw [get_alloc' (by rw [next_set]; omega), get_set' hne2, g1] at k1
    have k2 := hG.same (M.next + 1) (by rw [next_alloc, next_set]; omega) (hT.ne g2 (by decide))
    rw [get_alloc' (by rw [next_set]; omega), get_set] at k2
    have gw := hG.wf (WF.alloc hw2) (hT3 _)
    have gn := hG.next
    have gg := hG.get
    rw [next_alloc, next_set] at gn gg
    rw [tkCells_snoc] at gg
    have gO := (Own.al (a := .cells (Tk.cells ⟨kn, tokT kn (seg l j e), h1, (seg l i j).count 10⟩) 39 0 false) hw hO2).trans hw (hG.own (WF.alloc hw2))
    simp (dsimp := false) (implicitDefEqProofs := false) (maxSteps := 1000000) (disch := omega) only [go_sem, Nat.reduceAdd, Nat.reduceMul, Nat.reduceEqDiff, Nat.reduceBEq, cond_true, cond_false, Nat.reduceLT, Nat.reduceLeDiff, Nat.reduceSub, Int.reduceToNat, Int.reduceLE, Int.reduceLT, Int.reduceEq, Int.reduceNe, Int.reduceAdd, Int.reduceSub, Int.reduceMul, Int.reduceNeg, UInt8.reduceToNat, decide_true, decide_false, decide_not, Int.cast_ofNat_Int, Int.natCast_add, Int.add_sub_cancel, Int.sub_add_cancel, Int.toNat_natCast, eq_self, not_true_eq_false, not_false_eq_true, Tk.cells] at hE
    simp (dsimp := false) (implicitDefEqProofs := false) (maxSteps := 1000000) (disch := omega) only [go_sem, Nat.reduceAdd, Nat.reduceMul, Nat.reduceEqDiff, Nat.reduceBEq, cond_true, cond_false, Nat.reduceLT, Nat.reduceLeDiff, Nat.reduceSub, Int.reduceToNat, Int.reduceLE, Int.reduceLT, Int.reduceEq, Int.reduceNe, Int.reduceAdd, Int.reduceSub, Int.reduceMul, Int.reduceNeg, UInt8.reduceToNat, decide_true, decide_false, decide_not, Int.cast_ofNat_Int, Int.natCast_add, Int.add_sub_cancel, Int.sub_add_cancel, Int.toNat_natCast, eq_self, not_true_eq_false, not_false_eq_true, hE]
    refine DR.way (pf := PF.none) [0,1,2,3,4,6,5,7,8] checked.mixed PF.none_ok (by kernel_rfl) ?_
    simp (dsimp := false) (implicitDefEqProofs := false) (maxSteps := 1000000) (disch := omega) only [go_sem, Nat.reduceAdd, Nat.reduceMul, Nat.reduceEqDiff, Nat.reduceBEq, cond_true, cond_false, Nat.reduceLT, Nat.reduceLeDiff, Nat.reduceSub, Int.reduceToNat, Int.reduceLE, Int.reduceLT, Int.reduceEq, Int.reduceNe, Int.reduceAdd, Int.reduceSub, Int.reduceMul, Int.reduceNeg, UInt8.reduceToNat, decide_true, decide_false, decide_not, Int.cast_ofNat_Int, Int.natCast_add, Int.add_sub_cancel, Int.sub_add_cancel, Int.toNat_natCast, eq_self, not_true_eq_false, not_false_eq_true, Option.isNone_none, k1, k2, hne1, hne2]
    refine ⟨by omega, CF.same (adv_same h1 (seg l j e) hok2 (by omega)) ?_⟩
    simp (dsimp := false) (implicitDefEqProofs := false) (maxSteps := 1000000) (disch := omega) only [go_sem, Nat.reduceAdd, Nat.reduceMul, Nat.reduceEqDiff, Nat.reduceBEq, cond_true, cond_false, Nat.reduceLT, Nat.reduceLeDiff, Nat.reduceSub, Int.reduceToNat, Int.reduceLE, Int.reduceLT, Int.reduceEq, Int.reduceNe, Int.reduceAdd, Int.reduceSub, Int.reduceMul, Int.reduceNeg, UInt8.reduceToNat, decide_true, decide_false, decide_not, Int.cast_ofNat_Int, Int.natCast_add, Int.add_sub_cancel, Int.sub_add_cancel, Int.toNat_natCast, eq_self, not_true_eq_false, not_false_eq_true, k1, k2, Pl.v, hne1, hne2]
    refine ih (n, e, adv h1 (seg l j e), out ++ [⟨kn, tokT kn (seg l j e), h1, (seg l i j).count 10⟩], some (M1.next + 1)) _ _ (by simp only; omega) ⟨by rw [get_set' hne2]; exact k1, get_set, ?_, ?_, by simp only [next_set]; omega, WF.set gw (by omega), ?_, o2, by simp only; omega, hadv2, by simp only [List.length_append, List.length_cons, List.length_nil]; omega⟩ (by simp (dsimp := false) (implicitDefEqProofs := false) (maxSteps := 1000000) (disch := omega) only [go_sem, Nat.reduceAdd, Nat.reduceMul, Nat.reduceEqDiff, Nat.reduceBEq, cond_true, cond_false, Nat.reduceLT, Nat.reduceLeDiff, Nat.reduceSub, Int.reduceToNat, Int.reduceLE, Int.reduceLT, Int.reduceEq, Int.reduceNe, Int.reduceAdd, Int.reduceSub, Int.reduceMul, Int.reduceNeg, UInt8.reduceToNat, decide_true, decide_false, decide_not, Int.cast_ofNat_Int, Int.natCast_add, Int.add_sub_cancel, Int.sub_add_cancel, Int.toNat_natCast, eq_self, not_true_eq_false, not_false_eq_true, List.length_append])
    · show (M2.set (M.next + 1) _).get (M1.next + 1) = _
      rw [get_set' (by omega)]; exact gg
    · refine (Own.st hw (.inr (by omega)) gO).to fun q hq => .inr ?_
      simp only [Option.some.injEq] at hq
      omega
    · rw [hst]
  · have ht : tokT kn (seg l j e) = seg l j e := by rw [tokT, if_neg h4]
    simp (dsimp := false) (implicitDefEqProofs := false) (maxSteps := 1000000) (disch := omega) only [go_sem, Nat.reduceAdd, Nat.reduceMul, Nat.reduceEqDiff, Nat.reduceBEq, cond_true, cond_false, Nat.reduceLT, Nat.reduceLeDiff, Nat.reduceSub, Int.reduceToNat, Int.reduceLE, Int.reduceLT, Int.reduceEq, Int.reduceNe, Int.reduceAdd, Int.reduceSub, Int.reduceMul, Int.reduceNeg, UInt8.reduceToNat, decide_true, decide_false, decide_not, Int.cast_ofNat_Int, Int.natCast_add, Int.add_sub_cancel, Int.sub_add_cancel, Int.toNat_natCast, eq_self, not_true_eq_false, not_false_eq_true, hne1, hne2]
    refine O1_append (M := Mem.alloc (M1.set (M.next + 1) _) (.cells (Tk.cells ⟨kn, seg l j e, h1, (seg l i j).count 10⟩) 39 0 false)) (news := Tk.cells ⟨kn, seg l j e, h1, (seg l i j).count 10⟩) (hT3 _) (tkCells_length _) q_app27_27 (by rw [news_slice, get_alloc (M := M1.set (M.next + 1) _) (j := M1.next) rfl, newsO_fits (by simp [Tk.cells])]; rfl) (by omega) (by omega) (by omega) (by omega) ?_
    intro E M2 hE hG
    have k1 := hG.same M.next (by rw [next_alloc, next_set]; omega) (hT.ne g1 (by decide))
    rw [get_alloc' (by rw [next_set]; omega), get_set' hne2, g1] at k1
    have k2 := hG.same (M.next + 1) (by rw [next_alloc, next_set]; omega) (hT.ne g2 (by decide))
    rw [get_alloc' (by rw [next_set]; omega), get_set] at k2
    have gw := hG.wf (WF.alloc hw2) (hT3 _)
    have gn := hG.next
    have gg := hG.get
    rw [next_alloc, next_set] at gn gg
    rw [tkCells_snoc] at gg
    have gO := (Own.al (a := .cells (Tk.cells ⟨kn, seg l j e, h1, (seg l i j).count 10⟩) 39 0 false) hw hO2).trans hw (hG.own (WF.alloc hw2))
    simp (dsimp := false) (implicitDefEqProofs := false) (maxSteps := 1000000) (disch := omega) only [go_sem, Nat.reduceAdd, Nat.reduceMul, Nat.reduceEqDiff, Nat.reduceBEq, cond_true, cond_false, Nat.reduceLT, Nat.reduceLeDiff, Nat.reduceSub, Int.reduceToNat, Int.reduceLE, Int.reduceLT, Int.reduceEq, Int.reduceNe, Int.reduceAdd, Int.reduceSub, Int.reduceMul, Int.reduceNeg, UInt8.reduceToNat, decide_true, decide_false, decide_not, Int.cast_ofNat_Int, Int.natCast_add, Int.add_sub_cancel, Int.sub_add_cancel, Int.toNat_natCast, eq_self, not_true_eq_false, not_false_eq_true, Tk.cells] at hE
    simp (dsimp := false) (implicitDefEqProofs := false) (maxSteps := 1000000) (disch := omega) only [go_sem, Nat.reduceAdd, Nat.reduceMul, Nat.reduceEqDiff, Nat.reduceBEq, cond_true, cond_false, Nat.reduceLT, Nat.reduceLeDiff, Nat.reduceSub, Int.reduceToNat, Int.reduceLE, Int.reduceLT, Int.reduceEq, Int.reduceNe, Int.reduceAdd, Int.reduceSub, Int.reduceMul, Int.reduceNeg, UInt8.reduceToNat, decide_true, decide_false, decide_not, Int.cast_ofNat_Int, Int.natCast_add, Int.add_sub_cancel, Int.sub_add_cancel, Int.toNat_natCast, eq_self, not_true_eq_false, not_false_eq_true, hE]
    refine DR.way (pf := PF.none) [0,1,2,3,4,6,5,7,8] checked.mixed PF.none_ok (by kernel_rfl) ?_
    simp (dsimp := false) (implicitDefEqProofs := false) (maxSteps := 1000000) (disch := omega) only [go_sem, Nat.reduceAdd, Nat.reduceMul, Nat.reduceEqDiff, Nat.reduceBEq, cond_true, cond_false, Nat.reduceLT, Nat.reduceLeDiff, Nat.reduceSub, Int.reduceToNat, Int.reduceLE, Int.reduceLT, Int.reduceEq, Int.reduceNe, Int.reduceAdd, Int.reduceSub, Int.reduceMul, Int.reduceNeg, UInt8.reduceToNat, decide_true, decide_false, decide_not, Int.cast_ofNat_Int, Int.natCast_add, Int.add_sub_cancel, Int.sub_add_cancel, Int.toNat_natCast, eq_self, not_true_eq_false, not_false_eq_true, Option.isNone_none, k1, k2, hne1, hne2]
    refine ⟨by omega, CF.same (adv_same h1 (seg l j e) hok2 (by omega)) ?_⟩
    simp (dsimp := false) (implicitDefEqProofs := false) (maxSteps := 1000000) (disch := omega) only [go_sem, Nat.reduceAdd, Nat.reduceMul, Nat.reduceEqDiff, Nat.reduceBEq, cond_true, cond_false, Nat.reduceLT, Nat.reduceLeDiff, Nat.reduceSub, Int.reduceToNat, Int.reduceLE, Int.reduceLT, Int.reduceEq, Int.reduceNe, Int.reduceAdd, Int.reduceSub, Int.reduceMul, Int.reduceNeg, UInt8.reduceToNat, decide_true, decide_false, decide_not, Int.cast_ofNat_Int, Int.natCast_add, Int.add_sub_cancel, Int.sub_add_cancel, Int.toNat_natCast, eq_self, not_true_eq_false, not_false_eq_true, k1, k2, Pl.v, hne1, hne2]
    refine ih (n, e, adv h1 (seg l j e), out ++ [⟨kn, seg l j e, h1, (seg l i j).count 10⟩], some (M1.next + 1)) _ _ (by simp only; omega) ⟨by rw [get_set' hne2]; exact k1, get_set, ?_, ?_, by simp only [next_set]; omega, WF.set gw (by omega), ?_, o2, by simp only; omega, hadv2, by simp only [List.length_append, List.length_cons, List.length_nil]; omega⟩ (by simp (dsimp := false) (implicitDefEqProofs := false) (maxSteps := 1000000) (disch := omega) only [go_sem, Nat.reduceAdd, Nat.reduceMul, Nat.reduceEqDiff, Nat.reduceBEq, cond_true, cond_false, Nat.reduceLT, Nat.reduceLeDiff, Nat.reduceSub, Int.reduceToNat, Int.reduceLE, Int.reduceLT, Int.reduceEq, Int.reduceNe, Int.reduceAdd, Int.reduceSub, Int.reduceMul, Int.reduceNeg, UInt8.reduceToNat, decide_true, decide_false, decide_not, Int.cast_ofNat_Int, Int.natCast_add, Int.add_sub_cancel, Int.sub_add_cancel, Int.toNat_natCast, eq_self, not_true_eq_false, not_false_eq_true, List.length_append])
    · show (M2.set (M.next + 1) _).get (M1.next + 1) = _
      rw [get_set' (by omega)]; exact gg
    · refine (Own.st hw (.inr (by omega)) gO).to fun q hq => .inr ?_
      simp only [Option.some.injEq] at hq
      omega
    · rw [hst, ht]
end Go.Proofs.Tryd
