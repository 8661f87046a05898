/-
  Walks of the seat of LexCuts, part 12: trimming.
-/
import Derived.Test.YtpljlblmagodlaaDoorW11
set_option linter.unusedVariables false
set_option linter.unusedSimpArgs false
set_option linter.unusedSimpArgs false
set_option maxRecDepth 100000
set_option maxHeartbeats 4000000
namespace Go.Proofs.Tryd
open Go Go.AL
/-- The table of a row's bytes. -/
def tabF (d : List UInt8) (i : Nat) : Value := .bool (decide (UInt8.ofNat i ∈ d))
def tab (d : List UInt8) : List Value := (List.range 256).map (tabF d)
theorem tab_length (d : List UInt8) : (tab d).length = 256 := by simp [tab]
theorem tab_get (d : List UInt8) (c : UInt8) : (tab d)[c.toNat]? = some (.bool (decide (c ∈ d))) := by
  have := c.toNat_lt
  simp [tab, tabF, this]
theorem wr_one : ∀ (cs : List Value) (n : Nat) (v : Value), n < cs.length → wr cs n [v] = cs.set n v
  | [], n, v, h => by simp at h
  | c :: cs, 0, v, _ => by simp [wr_cons, wr_nil]
  | c :: cs, n + 1, v, h => by simp [wr_succ, wr_one cs n v (by simpa using h)]
theorem tab_set (d : List UInt8) (c : UInt8) : wr (tab d) c.toNat [.bool true] = tab (c :: d) := by
  have := c.toNat_lt
  rw [wr_one _ _ _ (by rw [tab_length]; omega)]
  apply List.ext_getElem?
  intro i
  rw [List.getElem?_set]
  by_cases h : c.toNat = i
  · subst h
    rw [if_pos rfl, if_pos (by rw [tab_length]; omega), tab_get]
    simp
  · rw [if_neg h]
    by_cases hi : i < 256
    · simp only [tab, List.getElem?_map, List.getElem?_range hi, Option.map_some, tabF, List.mem_cons]
      have : ¬ UInt8.ofNat i = c := by
        intro e; apply h; rw [← e]; simp; omega
      simp [this]
    · simp [tab, hi]
theorem tab_nil : List.replicate 256 (Value.bool false) = tab [] := by
  apply List.ext_getElem?
  intro i
  by_cases hi : i < 256
  · rw [List.getElem?_replicate, if_pos hi]
    simp only [tab, List.getElem?_map, List.getElem?_range hi, Option.map_some, tabF, List.not_mem_nil, decide_false]
  · rw [List.getElem?_replicate, if_neg hi]
    simp [tab, hi]
theorem tab_ones (d : List UInt8) : (tab d).all (·.oneCell') = true := by simp [tab, tabF, one_bool]
theorem tab_take (d : List UInt8) : (tab d).take 256 = tab d := List.take_of_length_le (by rw [tab_length]; omega)
theorem wr_all : ∀ (cs l : List Value), l.length = cs.length → wr cs 0 l = l
  | [], [], _ => rfl
  | [], _ :: _, h => by simp at h
  | c :: cs, [], h => by simp at h
  | c :: cs, v :: l, h => by rw [wr_cons, wr_all cs l (by simpa using h)]
theorem wr_tab (d d' : List UInt8) : wr (tab d) 0 (tab d') = tab d' := wr_all _ _ (by rw [tab_length, tab_length])
theorem set_walk (c : List UInt8) (hc : c.length < 1000) (ha : ∀ x ∈ c, x.toNat < 128) : Pure 30 [.string (bs c)] (.tuple #[.agg (tab c.reverse).toArray, .bool true]) := by
  intro G M
  refine ACalls.walk (N := 21) (rs := [.cell 2 61, .tmp 3]) func30 rfl rfl (by kernel_rfl) (by kernel_rfl) fun hw => ?_
  simp (dsimp := false) (implicitDefEqProofs := false) (maxSteps := 1000000) (disch := omega) only [go_sem, Nat.reduceAdd, Nat.reduceMul, Nat.reduceEqDiff, Nat.reduceBEq, cond_true, cond_false, Nat.reduceLT, Nat.reduceLeDiff, Nat.reduceSub, Int.reduceToNat, Int.reduceLE, Int.reduceLT, Int.reduceEq, Int.reduceNe, Int.reduceAdd, Int.reduceSub, Int.reduceMul, Int.reduceNeg, UInt8.reduceToNat, decide_true, decide_false, decide_not, Int.cast_ofNat_Int, Int.natCast_add, Int.add_sub_cancel, Int.sub_add_cancel, Int.toNat_natCast, eq_self, not_true_eq_false, not_false_eq_true, tab_nil]
  refine LP.by (fun a : Nat => [(0, .string (bs c)), (2, .pointer (some ⟨M.next, 0, none⟩)), (3, .bool false), (4, .int .i64 a)]) (fun a M' => a ≤ c.length ∧ M' = M.alloc (.cells (tab (c.take a).reverse) 61 0 false)) (fun a => c.length - a) 0 (by kernel_rfl) ⟨by omega, rfl⟩ (by simp (dsimp := false) (implicitDefEqProofs := false) (maxSteps := 1000000) (disch := omega) only [go_sem, Nat.reduceAdd, Nat.reduceMul, Nat.reduceEqDiff, Nat.reduceBEq, cond_true, cond_false, Nat.reduceLT, Nat.reduceLeDiff, Nat.reduceSub, Int.reduceToNat, Int.reduceLE, Int.reduceLT, Int.reduceEq, Int.reduceNe, Int.reduceAdd, Int.reduceSub, Int.reduceMul, Int.reduceNeg, UInt8.reduceToNat, decide_true, decide_false, decide_not, Int.cast_ofNat_Int, Int.natCast_add, Int.add_sub_cancel, Int.sub_add_cancel, Int.toNat_natCast, eq_self, not_true_eq_false, not_false_eq_true]) ?_
  rintro a M' ⟨h1, rfl⟩ ih
  simp (dsimp := false) (implicitDefEqProofs := false) (maxSteps := 1000000) (disch := omega) only [go_sem, Nat.reduceAdd, Nat.reduceMul, Nat.reduceEqDiff, Nat.reduceBEq, cond_true, cond_false, Nat.reduceLT, Nat.reduceLeDiff, Nat.reduceSub, Int.reduceToNat, Int.reduceLE, Int.reduceLT, Int.reduceEq, Int.reduceNe, Int.reduceAdd, Int.reduceSub, Int.reduceMul, Int.reduceNeg, UInt8.reduceToNat, decide_true, decide_false, decide_not, Int.cast_ofNat_Int, Int.natCast_add, Int.add_sub_cancel, Int.sub_add_cancel, Int.toNat_natCast, eq_self, not_true_eq_false, not_false_eq_true]
  refine Br.of (fun h => ?_) (fun h => ?_)
  · have hx := ha (c.getD a 0) (by simp [h])
    simp (dsimp := false) (implicitDefEqProofs := false) (maxSteps := 1000000) (disch := omega) only [go_sem, Nat.reduceAdd, Nat.reduceMul, Nat.reduceEqDiff, Nat.reduceBEq, cond_true, cond_false, Nat.reduceLT, Nat.reduceLeDiff, Nat.reduceSub, Int.reduceToNat, Int.reduceLE, Int.reduceLT, Int.reduceEq, Int.reduceNe, Int.reduceAdd, Int.reduceSub, Int.reduceMul, Int.reduceNeg, UInt8.reduceToNat, decide_true, decide_false, decide_not, Int.cast_ofNat_Int, Int.natCast_add, Int.add_sub_cancel, Int.sub_add_cancel, Int.toNat_natCast, eq_self, not_true_eq_false, not_false_eq_true, get_some]
    refine ⟨by omega, Br.of (fun h2 => ?_) (fun h2 => ?_)⟩
    · exfalso; omega
    simp (dsimp := false) (implicitDefEqProofs := false) (maxSteps := 1000000) (disch := omega) only [go_sem, Nat.reduceAdd, Nat.reduceMul, Nat.reduceEqDiff, Nat.reduceBEq, cond_true, cond_false, Nat.reduceLT, Nat.reduceLeDiff, Nat.reduceSub, Int.reduceToNat, Int.reduceLE, Int.reduceLT, Int.reduceEq, Int.reduceNe, Int.reduceAdd, Int.reduceSub, Int.reduceMul, Int.reduceNeg, UInt8.reduceToNat, decide_true, decide_false, decide_not, Int.cast_ofNat_Int, Int.natCast_add, Int.add_sub_cancel, Int.sub_add_cancel, Int.toNat_natCast, eq_self, not_true_eq_false, not_false_eq_true, tab_length, Nat.mul_one, tab_set]
    refine ⟨by omega, by omega, ?_⟩
    have he : (c.getD a 0) :: (c.take a).reverse = (c.take (a + 1)).reverse := by
      rw [List.take_add_one, List.getElem?_eq_getElem h, show c.getD a 0 = c[a] by simp [h]]
      rw [Option.toList_some, List.reverse_append]; rfl
    rw [he]
    exact ih (a + 1) _ _ (by omega) ⟨by omega, rfl⟩ (by simp (dsimp := false) (implicitDefEqProofs := false) (maxSteps := 1000000) (disch := omega) only [go_sem, Nat.reduceAdd, Nat.reduceMul, Nat.reduceEqDiff, Nat.reduceBEq, cond_true, cond_false, Nat.reduceLT, Nat.reduceLeDiff, Nat.reduceSub, Int.reduceToNat, Int.reduceLE, Int.reduceLT, Int.reduceEq, Int.reduceNe, Int.reduceAdd, Int.reduceSub, Int.reduceMul, Int.reduceNeg, UInt8.reduceToNat, decide_true, decide_false, decide_not, Int.cast_ofNat_Int, Int.natCast_add, Int.add_sub_cancel, Int.sub_add_cancel, Int.toNat_natCast, eq_self, not_true_eq_false, not_false_eq_true])
  · simp (dsimp := false) (implicitDefEqProofs := false) (maxSteps := 1000000) (disch := omega) only [go_sem, Nat.reduceAdd, Nat.reduceMul, Nat.reduceEqDiff, Nat.reduceBEq, cond_true, cond_false, Nat.reduceLT, Nat.reduceLeDiff, Nat.reduceSub, Int.reduceToNat, Int.reduceLE, Int.reduceLT, Int.reduceEq, Int.reduceNe, Int.reduceAdd, Int.reduceSub, Int.reduceMul, Int.reduceNeg, UInt8.reduceToNat, decide_true, decide_false, decide_not, Int.cast_ofNat_Int, Int.natCast_add, Int.add_sub_cancel, Int.sub_add_cancel, Int.toNat_natCast, eq_self, not_true_eq_false, not_false_eq_true, tab_length, tab_take, tab_ones, wr_tab]
    have : c.take a = c := List.take_of_length_le (by omega)
    exact endGrow (by simp [flatV, flat2, tab, tabF, flat1]) (.alloc hw (.refl M)) (by rw [this])
theorem set_same (c : List UInt8) (hc : c.length < 1000) (ha : ∀ x ∈ c, x.toNat < 128) : Same prog 30 [.string (bs c)] (.tuple #[.agg (tab c.reverse).toArray, .bool true]) := Same.of func30 rfl rfl (set_walk c hc ha)
theorem has_walk (d : List UInt8) (x : UInt8) (G : Nat) (M : Mem) (k : Nat) (e fz : Nat) (ro : Bool) (hM : M.get k = some (.cells (tab d) e fz ro)) :
    ACalls prog G 56 [.pointer (some ⟨k, 0, none⟩), .int .u8 x.toNat] M (Says (.bool (decide (x ∈ d))) M) := by
  have hx := x.toNat_lt
  refine ACalls.walk (N := 10) (rs := [.tmp 4]) func56 rfl rfl (by kernel_rfl) (by kernel_rfl) fun hw => ?_
  simp (dsimp := false) (implicitDefEqProofs := false) (maxSteps := 1000000) (disch := omega) only [go_sem, Nat.reduceAdd, Nat.reduceMul, Nat.reduceEqDiff, Nat.reduceBEq, cond_true, cond_false, Nat.reduceLT, Nat.reduceLeDiff, Nat.reduceSub, Int.reduceToNat, Int.reduceLE, Int.reduceLT, Int.reduceEq, Int.reduceNe, Int.reduceAdd, Int.reduceSub, Int.reduceMul, Int.reduceNeg, UInt8.reduceToNat, decide_true, decide_false, decide_not, Int.cast_ofNat_Int, Int.natCast_add, Int.add_sub_cancel, Int.sub_add_cancel, Int.toNat_natCast, eq_self, not_true_eq_false, not_false_eq_true, hM, Nat.mul_one, tab_get]
  exact ⟨⟨by omega, by omega⟩, endSays rfl (Keep.refl _) rfl⟩
/-- A row without what stands ahead of it of some bytes. -/
def trimL (c l : List UInt8) : List UInt8 := l.dropWhile fun x => decide (x ∈ c)
/-- And at its end. -/
def trimR (c : List UInt8) : Nat → List UInt8 → List UInt8
  | 0, l => l
  | n + 1, l => if l.length = 0 then l else if l.getD (l.length - 1) 0 ∈ c then trimR c n (l.take (l.length - 1)) else l
theorem trimL_drop (c l : List UInt8) (a : Nat) (h : a < l.length) : trimL c (l.drop a) = if l.getD a 0 ∈ c then trimL c (l.drop (a + 1)) else l.drop a := by
  unfold trimL
  rw [List.drop_eq_getElem_cons h, List.dropWhile_cons]
  simp [h]
theorem left_walk (d l : List UInt8) (hl : l.length < 1000000000) (G : Nat) (M : Mem) (k : Nat) (e fz : Nat) (ro : Bool) (hM : M.get k = some (.cells (tab d) e fz ro)) :
    ACalls prog G 31 [.string (bs l), .pointer (some ⟨k, 0, none⟩)] M (Says (.string (bs (trimL d l))) M) := by
  refine ACalls.walk (N := 16) (rs := [.tmp 4]) func31 rfl rfl (by kernel_rfl) (by kernel_rfl) fun hw => ?_
  simp (dsimp := false) (implicitDefEqProofs := false) (maxSteps := 1000000) (disch := omega) only [go_sem, Nat.reduceAdd, Nat.reduceMul, Nat.reduceEqDiff, Nat.reduceBEq, cond_true, cond_false, Nat.reduceLT, Nat.reduceLeDiff, Nat.reduceSub, Int.reduceToNat, Int.reduceLE, Int.reduceLT, Int.reduceEq, Int.reduceNe, Int.reduceAdd, Int.reduceSub, Int.reduceMul, Int.reduceNeg, UInt8.reduceToNat, decide_true, decide_false, decide_not, Int.cast_ofNat_Int, Int.natCast_add, Int.add_sub_cancel, Int.sub_add_cancel, Int.toNat_natCast, eq_self, not_true_eq_false, not_false_eq_true]
  refine LP.by (fun a : Nat => [(0, .string (bs (l.drop a))), (1, .pointer (some ⟨k, 0, none⟩))]) (fun a M' => a ≤ l.length ∧ trimL d l = trimL d (l.drop a) ∧ M' = M) (fun a => l.length - a) 0 (by kernel_rfl) ⟨by omega, rfl, rfl⟩ (by simp (dsimp := false) (implicitDefEqProofs := false) (maxSteps := 1000000) (disch := omega) only [go_sem, Nat.reduceAdd, Nat.reduceMul, Nat.reduceEqDiff, Nat.reduceBEq, cond_true, cond_false, Nat.reduceLT, Nat.reduceLeDiff, Nat.reduceSub, Int.reduceToNat, Int.reduceLE, Int.reduceLT, Int.reduceEq, Int.reduceNe, Int.reduceAdd, Int.reduceSub, Int.reduceMul, Int.reduceNeg, UInt8.reduceToNat, decide_true, decide_false, decide_not, Int.cast_ofNat_Int, Int.natCast_add, Int.add_sub_cancel, Int.sub_add_cancel, Int.toNat_natCast, eq_self, not_true_eq_false, not_false_eq_true]) ?_
  rintro a M' ⟨h1, h2, rfl⟩ ih
  simp (dsimp := false) (implicitDefEqProofs := false) (maxSteps := 1000000) (disch := omega) only [go_sem, Nat.reduceAdd, Nat.reduceMul, Nat.reduceEqDiff, Nat.reduceBEq, cond_true, cond_false, Nat.reduceLT, Nat.reduceLeDiff, Nat.reduceSub, Int.reduceToNat, Int.reduceLE, Int.reduceLT, Int.reduceEq, Int.reduceNe, Int.reduceAdd, Int.reduceSub, Int.reduceMul, Int.reduceNeg, UInt8.reduceToNat, decide_true, decide_false, decide_not, Int.cast_ofNat_Int, Int.natCast_add, Int.add_sub_cancel, Int.sub_add_cancel, Int.toNat_natCast, eq_self, not_true_eq_false, not_false_eq_true, List.length_drop]
  refine Br.of (fun h => ?_) (fun h => ?_)
  · have hh : a < l.length := by omega
    have hg : (l.drop a)[0]? = some (l.getD a 0) := by simp [hh]
    rw [trimL_drop d l a hh] at h2
    simp (dsimp := false) (implicitDefEqProofs := false) (maxSteps := 1000000) (disch := omega) only [go_sem, Nat.reduceAdd, Nat.reduceMul, Nat.reduceEqDiff, Nat.reduceBEq, cond_true, cond_false, Nat.reduceLT, Nat.reduceLeDiff, Nat.reduceSub, Int.reduceToNat, Int.reduceLE, Int.reduceLT, Int.reduceEq, Int.reduceNe, Int.reduceAdd, Int.reduceSub, Int.reduceMul, Int.reduceNeg, UInt8.reduceToNat, decide_true, decide_false, decide_not, Int.cast_ofNat_Int, Int.natCast_add, Int.add_sub_cancel, Int.sub_add_cancel, Int.toNat_natCast, eq_self, not_true_eq_false, not_false_eq_true, hg]
    refine CF.at ((has_walk d (l.getD a 0) G M' k e fz ro hM).callF func56 rfl rfl) ?_
    simp (dsimp := false) (implicitDefEqProofs := false) (maxSteps := 1000000) (disch := omega) only [go_sem, Nat.reduceAdd, Nat.reduceMul, Nat.reduceEqDiff, Nat.reduceBEq, cond_true, cond_false, Nat.reduceLT, Nat.reduceLeDiff, Nat.reduceSub, Int.reduceToNat, Int.reduceLE, Int.reduceLT, Int.reduceEq, Int.reduceNe, Int.reduceAdd, Int.reduceSub, Int.reduceMul, Int.reduceNeg, UInt8.reduceToNat, decide_true, decide_false, decide_not, Int.cast_ofNat_Int, Int.natCast_add, Int.add_sub_cancel, Int.sub_add_cancel, Int.toNat_natCast, eq_self, not_true_eq_false, not_false_eq_true]
    refine Br.of (fun h3 => ?_) (fun h3 => ?_)
    · simp (dsimp := false) (implicitDefEqProofs := false) (maxSteps := 1000000) (disch := omega) only [go_sem, Nat.reduceAdd, Nat.reduceMul, Nat.reduceEqDiff, Nat.reduceBEq, cond_true, cond_false, Nat.reduceLT, Nat.reduceLeDiff, Nat.reduceSub, Int.reduceToNat, Int.reduceLE, Int.reduceLT, Int.reduceEq, Int.reduceNe, Int.reduceAdd, Int.reduceSub, Int.reduceMul, Int.reduceNeg, UInt8.reduceToNat, decide_true, decide_false, decide_not, Int.cast_ofNat_Int, Int.natCast_add, Int.add_sub_cancel, Int.sub_add_cancel, Int.toNat_natCast, eq_self, not_true_eq_false, not_false_eq_true, List.drop_drop]
      refine ⟨by simp; omega, ih (a + 1) _ _ (by omega) ⟨by omega, by rw [h2, if_pos h3], rfl⟩ (by simp (dsimp := false) (implicitDefEqProofs := false) (maxSteps := 1000000) (disch := omega) only [go_sem, Nat.reduceAdd, Nat.reduceMul, Nat.reduceEqDiff, Nat.reduceBEq, cond_true, cond_false, Nat.reduceLT, Nat.reduceLeDiff, Nat.reduceSub, Int.reduceToNat, Int.reduceLE, Int.reduceLT, Int.reduceEq, Int.reduceNe, Int.reduceAdd, Int.reduceSub, Int.reduceMul, Int.reduceNeg, UInt8.reduceToNat, decide_true, decide_false, decide_not, Int.cast_ofNat_Int, Int.natCast_add, Int.add_sub_cancel, Int.sub_add_cancel, Int.toNat_natCast, eq_self, not_true_eq_false, not_false_eq_true, List.drop_drop])⟩
    · simp (dsimp := false) (implicitDefEqProofs := false) (maxSteps := 1000000) (disch := omega) only [go_sem, Nat.reduceAdd, Nat.reduceMul, Nat.reduceEqDiff, Nat.reduceBEq, cond_true, cond_false, Nat.reduceLT, Nat.reduceLeDiff, Nat.reduceSub, Int.reduceToNat, Int.reduceLE, Int.reduceLT, Int.reduceEq, Int.reduceNe, Int.reduceAdd, Int.reduceSub, Int.reduceMul, Int.reduceNeg, UInt8.reduceToNat, decide_true, decide_false, decide_not, Int.cast_ofNat_Int, Int.natCast_add, Int.add_sub_cancel, Int.sub_add_cancel, Int.toNat_natCast, eq_self, not_true_eq_false, not_false_eq_true]
      exact endSays rfl (Keep.refl _) (by rw [h2, if_neg h3])
  · have hh : l.drop a = [] := List.drop_eq_nil_of_le (by omega)
    rw [hh] at h2
    simp (dsimp := false) (implicitDefEqProofs := false) (maxSteps := 1000000) (disch := omega) only [go_sem, Nat.reduceAdd, Nat.reduceMul, Nat.reduceEqDiff, Nat.reduceBEq, cond_true, cond_false, Nat.reduceLT, Nat.reduceLeDiff, Nat.reduceSub, Int.reduceToNat, Int.reduceLE, Int.reduceLT, Int.reduceEq, Int.reduceNe, Int.reduceAdd, Int.reduceSub, Int.reduceMul, Int.reduceNeg, UInt8.reduceToNat, decide_true, decide_false, decide_not, Int.cast_ofNat_Int, Int.natCast_add, Int.add_sub_cancel, Int.sub_add_cancel, Int.toNat_natCast, eq_self, not_true_eq_false, not_false_eq_true]
    exact endSays rfl (Keep.refl _) (by rw [h2, hh]; rfl)
theorem right_walk (d l : List UInt8) (hl : l.length < 1000000000) (G : Nat) (M : Mem) (k : Nat) (e fz : Nat) (ro : Bool) (hM : M.get k = some (.cells (tab d) e fz ro)) :
    ACalls prog G 48 [.string (bs l), .pointer (some ⟨k, 0, none⟩)] M (Says (.string (bs (trimR d l.length l))) M) := by
  refine ACalls.walk (N := 22) (rs := [.tmp 4]) func48 rfl rfl (by kernel_rfl) (by kernel_rfl) fun hw => ?_
  simp (dsimp := false) (implicitDefEqProofs := false) (maxSteps := 1000000) (disch := omega) only [go_sem, Nat.reduceAdd, Nat.reduceMul, Nat.reduceEqDiff, Nat.reduceBEq, cond_true, cond_false, Nat.reduceLT, Nat.reduceLeDiff, Nat.reduceSub, Int.reduceToNat, Int.reduceLE, Int.reduceLT, Int.reduceEq, Int.reduceNe, Int.reduceAdd, Int.reduceSub, Int.reduceMul, Int.reduceNeg, UInt8.reduceToNat, decide_true, decide_false, decide_not, Int.cast_ofNat_Int, Int.natCast_add, Int.add_sub_cancel, Int.sub_add_cancel, Int.toNat_natCast, eq_self, not_true_eq_false, not_false_eq_true]
  refine LP.by (fun a : Nat => [(0, .string (bs (l.take a))), (1, .pointer (some ⟨k, 0, none⟩))]) (fun a M' => a ≤ l.length ∧ trimR d l.length l = trimR d a (l.take a) ∧ M' = M) (fun a => a) l.length (by kernel_rfl) ⟨by omega, by simp, rfl⟩ (by simp (dsimp := false) (implicitDefEqProofs := false) (maxSteps := 1000000) (disch := omega) only [go_sem, Nat.reduceAdd, Nat.reduceMul, Nat.reduceEqDiff, Nat.reduceBEq, cond_true, cond_false, Nat.reduceLT, Nat.reduceLeDiff, Nat.reduceSub, Int.reduceToNat, Int.reduceLE, Int.reduceLT, Int.reduceEq, Int.reduceNe, Int.reduceAdd, Int.reduceSub, Int.reduceMul, Int.reduceNeg, UInt8.reduceToNat, decide_true, decide_false, decide_not, Int.cast_ofNat_Int, Int.natCast_add, Int.add_sub_cancel, Int.sub_add_cancel, Int.toNat_natCast, eq_self, not_true_eq_false, not_false_eq_true, List.take_length]) ?_
  rintro a M' ⟨h1, h2, rfl⟩ ih
  have ht : (l.take a).length = a := by simp; omega
  simp (dsimp := false) (implicitDefEqProofs := false) (maxSteps := 1000000) (disch := omega) only [go_sem, Nat.reduceAdd, Nat.reduceMul, Nat.reduceEqDiff, Nat.reduceBEq, cond_true, cond_false, Nat.reduceLT, Nat.reduceLeDiff, Nat.reduceSub, Int.reduceToNat, Int.reduceLE, Int.reduceLT, Int.reduceEq, Int.reduceNe, Int.reduceAdd, Int.reduceSub, Int.reduceMul, Int.reduceNeg, UInt8.reduceToNat, decide_true, decide_false, decide_not, Int.cast_ofNat_Int, Int.natCast_add, Int.add_sub_cancel, Int.sub_add_cancel, Int.toNat_natCast, eq_self, not_true_eq_false, not_false_eq_true, ht]
  refine Br.of (fun h => ?_) (fun h => ?_)
  · obtain ⟨a, rfl⟩ : ∃ b, a = b + 1 := ⟨a - 1, by omega⟩
    have hg : (l.take (a + 1))[a]? = some (l.getD a 0) := by rw [List.getElem?_take, if_pos (Nat.lt_succ_self a)]; exact get_some (by omega)
    have hg2 : (l.take (a + 1)).getD a 0 = l.getD a 0 := by simp [List.getD]
    rw [trimR, ht, if_neg (by omega), Nat.add_sub_cancel, hg2, List.take_take, Nat.min_eq_left (Nat.le_succ a)] at h2
    simp (dsimp := false) (implicitDefEqProofs := false) (maxSteps := 1000000) (disch := omega) only [go_sem, Nat.reduceAdd, Nat.reduceMul, Nat.reduceEqDiff, Nat.reduceBEq, cond_true, cond_false, Nat.reduceLT, Nat.reduceLeDiff, Nat.reduceSub, Int.reduceToNat, Int.reduceLE, Int.reduceLT, Int.reduceEq, Int.reduceNe, Int.reduceAdd, Int.reduceSub, Int.reduceMul, Int.reduceNeg, UInt8.reduceToNat, decide_true, decide_false, decide_not, Int.cast_ofNat_Int, Int.natCast_add, Int.add_sub_cancel, Int.sub_add_cancel, Int.toNat_natCast, eq_self, not_true_eq_false, not_false_eq_true, hg, ht]
    refine ⟨by omega, CF.at ((has_walk d (l.getD a 0) G M' k e fz ro hM).callF func56 rfl rfl) ?_⟩
    simp (dsimp := false) (implicitDefEqProofs := false) (maxSteps := 1000000) (disch := omega) only [go_sem, Nat.reduceAdd, Nat.reduceMul, Nat.reduceEqDiff, Nat.reduceBEq, cond_true, cond_false, Nat.reduceLT, Nat.reduceLeDiff, Nat.reduceSub, Int.reduceToNat, Int.reduceLE, Int.reduceLT, Int.reduceEq, Int.reduceNe, Int.reduceAdd, Int.reduceSub, Int.reduceMul, Int.reduceNeg, UInt8.reduceToNat, decide_true, decide_false, decide_not, Int.cast_ofNat_Int, Int.natCast_add, Int.add_sub_cancel, Int.sub_add_cancel, Int.toNat_natCast, eq_self, not_true_eq_false, not_false_eq_true]
    refine Br.of (fun h3 => ?_) (fun h3 => ?_)
    · simp (dsimp := false) (implicitDefEqProofs := false) (maxSteps := 1000000) (disch := omega) only [go_sem, Nat.reduceAdd, Nat.reduceMul, Nat.reduceEqDiff, Nat.reduceBEq, cond_true, cond_false, Nat.reduceLT, Nat.reduceLeDiff, Nat.reduceSub, Int.reduceToNat, Int.reduceLE, Int.reduceLT, Int.reduceEq, Int.reduceNe, Int.reduceAdd, Int.reduceSub, Int.reduceMul, Int.reduceNeg, UInt8.reduceToNat, decide_true, decide_false, decide_not, Int.cast_ofNat_Int, Int.natCast_add, Int.add_sub_cancel, Int.sub_add_cancel, Int.toNat_natCast, eq_self, not_true_eq_false, not_false_eq_true, ht, List.take_take]
      refine ⟨by omega, ih a _ _ (by omega) ⟨by omega, by rw [h2, if_pos h3], rfl⟩ (by simp (dsimp := false) (implicitDefEqProofs := false) (maxSteps := 1000000) (disch := omega) only [go_sem, Nat.reduceAdd, Nat.reduceMul, Nat.reduceEqDiff, Nat.reduceBEq, cond_true, cond_false, Nat.reduceLT, Nat.reduceLeDiff, Nat.reduceSub, Int.reduceToNat, Int.reduceLE, Int.reduceLT, Int.reduceEq, Int.reduceNe, Int.reduceAdd, Int.reduceSub, Int.reduceMul, Int.reduceNeg, UInt8.reduceToNat, decide_true, decide_false, decide_not, Int.cast_ofNat_Int, Int.natCast_add, Int.add_sub_cancel, Int.sub_add_cancel, Int.toNat_natCast, eq_self, not_true_eq_false, not_false_eq_true, Nat.min_eq_left (Nat.le_succ a)])⟩
    · simp (dsimp := false) (implicitDefEqProofs := false) (maxSteps := 1000000) (disch := omega) only [go_sem, Nat.reduceAdd, Nat.reduceMul, Nat.reduceEqDiff, Nat.reduceBEq, cond_true, cond_false, Nat.reduceLT, Nat.reduceLeDiff, Nat.reduceSub, Int.reduceToNat, Int.reduceLE, Int.reduceLT, Int.reduceEq, Int.reduceNe, Int.reduceAdd, Int.reduceSub, Int.reduceMul, Int.reduceNeg, UInt8.reduceToNat, decide_true, decide_false, decide_not, Int.cast_ofNat_Int, Int.natCast_add, Int.add_sub_cancel, Int.sub_add_cancel, Int.toNat_natCast, eq_self, not_true_eq_false, not_false_eq_true]
      exact endSays rfl (Keep.refl _) (by rw [h2, if_neg h3])
  · obtain rfl : a = 0 := by omega
    simp (dsimp := false) (implicitDefEqProofs := false) (maxSteps := 1000000) (disch := omega) only [go_sem, Nat.reduceAdd, Nat.reduceMul, Nat.reduceEqDiff, Nat.reduceBEq, cond_true, cond_false, Nat.reduceLT, Nat.reduceLeDiff, Nat.reduceSub, Int.reduceToNat, Int.reduceLE, Int.reduceLT, Int.reduceEq, Int.reduceNe, Int.reduceAdd, Int.reduceSub, Int.reduceMul, Int.reduceNeg, UInt8.reduceToNat, decide_true, decide_false, decide_not, Int.cast_ofNat_Int, Int.natCast_add, Int.add_sub_cancel, Int.sub_add_cancel, Int.toNat_natCast, eq_self, not_true_eq_false, not_false_eq_true]
    exact endSays rfl (Keep.refl _) (by rw [h2]; rfl)
theorem trimL_walk (c l : List UInt8) (hl : l.length < 1000000000) (hc : c.length < 1000) (hc2 : 2 ≤ c.length) (ha : ∀ x ∈ c, x.toNat < 128) : Pure 18 [.string (bs l), .string (bs c)] (.string (bs (trimL c l))) := by
  intro G M
  have hr : trimL c.reverse l = trimL c l := by simp [trimL]
  have hcn : ¬ c = [] := by intro h; rw [h] at hc2; simp at hc2
  refine ACalls.walk (N := 37) (rs := [.tmp 4]) func18 rfl rfl (by kernel_rfl) (by kernel_rfl) fun hw => ?_
  simp (dsimp := false) (implicitDefEqProofs := false) (maxSteps := 1000000) (disch := omega) only [go_sem, Nat.reduceAdd, Nat.reduceMul, Nat.reduceEqDiff, Nat.reduceBEq, cond_true, cond_false, Nat.reduceLT, Nat.reduceLeDiff, Nat.reduceSub, Int.reduceToNat, Int.reduceLE, Int.reduceLT, Int.reduceEq, Int.reduceNe, Int.reduceAdd, Int.reduceSub, Int.reduceMul, Int.reduceNeg, UInt8.reduceToNat, decide_true, decide_false, decide_not, Int.cast_ofNat_Int, Int.natCast_add, Int.add_sub_cancel, Int.sub_add_cancel, Int.toNat_natCast, eq_self, not_true_eq_false, not_false_eq_true]
  refine Br.of (fun h1 => ?_) (fun h1 => ?_)
  · simp (dsimp := false) (implicitDefEqProofs := false) (maxSteps := 1000000) (disch := omega) only [go_sem, Nat.reduceAdd, Nat.reduceMul, Nat.reduceEqDiff, Nat.reduceBEq, cond_true, cond_false, Nat.reduceLT, Nat.reduceLeDiff, Nat.reduceSub, Int.reduceToNat, Int.reduceLE, Int.reduceLT, Int.reduceEq, Int.reduceNe, Int.reduceAdd, Int.reduceSub, Int.reduceMul, Int.reduceNeg, UInt8.reduceToNat, decide_true, decide_false, decide_not, Int.cast_ofNat_Int, Int.natCast_add, Int.add_sub_cancel, Int.sub_add_cancel, Int.toNat_natCast, eq_self, not_true_eq_false, not_false_eq_true, h1]
    exact endSays rfl (Keep.refl _) (by subst h1; rfl)
  simp (dsimp := false) (implicitDefEqProofs := false) (maxSteps := 1000000) (disch := omega) only [go_sem, Nat.reduceAdd, Nat.reduceMul, Nat.reduceEqDiff, Nat.reduceBEq, cond_true, cond_false, Nat.reduceLT, Nat.reduceLeDiff, Nat.reduceSub, Int.reduceToNat, Int.reduceLE, Int.reduceLT, Int.reduceEq, Int.reduceNe, Int.reduceAdd, Int.reduceSub, Int.reduceMul, Int.reduceNeg, UInt8.reduceToNat, decide_true, decide_false, decide_not, Int.cast_ofNat_Int, Int.natCast_add, Int.add_sub_cancel, Int.sub_add_cancel, Int.toNat_natCast, eq_self, not_true_eq_false, not_false_eq_true, h1, hcn]
  refine Br.of (fun h2 => absurd h2 (by omega)) (fun h2 => ?_)
  simp (dsimp := false) (implicitDefEqProofs := false) (maxSteps := 1000000) (disch := omega) only [go_sem, Nat.reduceAdd, Nat.reduceMul, Nat.reduceEqDiff, Nat.reduceBEq, cond_true, cond_false, Nat.reduceLT, Nat.reduceLeDiff, Nat.reduceSub, Int.reduceToNat, Int.reduceLE, Int.reduceLT, Int.reduceEq, Int.reduceNe, Int.reduceAdd, Int.reduceSub, Int.reduceMul, Int.reduceNeg, UInt8.reduceToNat, decide_true, decide_false, decide_not, Int.cast_ofNat_Int, Int.natCast_add, Int.add_sub_cancel, Int.sub_add_cancel, Int.toNat_natCast, eq_self, not_true_eq_false, not_false_eq_true, h2]
  refine CF.same (set_same c hc ha) ?_
  simp (dsimp := false) (implicitDefEqProofs := false) (maxSteps := 1000000) (disch := omega) only [go_sem, Nat.reduceAdd, Nat.reduceMul, Nat.reduceEqDiff, Nat.reduceBEq, cond_true, cond_false, Nat.reduceLT, Nat.reduceLeDiff, Nat.reduceSub, Int.reduceToNat, Int.reduceLE, Int.reduceLT, Int.reduceEq, Int.reduceNe, Int.reduceAdd, Int.reduceSub, Int.reduceMul, Int.reduceNeg, UInt8.reduceToNat, decide_true, decide_false, decide_not, Int.cast_ofNat_Int, Int.natCast_add, Int.add_sub_cancel, Int.sub_add_cancel, Int.toNat_natCast, eq_self, not_true_eq_false, not_false_eq_true, tab_length, tab_ones, tab_nil, wr_tab]
  refine CF.at ((left_walk c.reverse l hl G _ M.next 61 0 false ?_).callF func31 rfl rfl) ?_
  · simp (dsimp := false) (implicitDefEqProofs := false) (maxSteps := 1000000) (disch := omega) only [go_sem, Nat.reduceAdd, Nat.reduceMul, Nat.reduceEqDiff, Nat.reduceBEq, cond_true, cond_false, Nat.reduceLT, Nat.reduceLeDiff, Nat.reduceSub, Int.reduceToNat, Int.reduceLE, Int.reduceLT, Int.reduceEq, Int.reduceNe, Int.reduceAdd, Int.reduceSub, Int.reduceMul, Int.reduceNeg, UInt8.reduceToNat, decide_true, decide_false, decide_not, Int.cast_ofNat_Int, Int.natCast_add, Int.add_sub_cancel, Int.sub_add_cancel, Int.toNat_natCast, eq_self, not_true_eq_false, not_false_eq_true, wr_tab, tab_nil]
  simp (dsimp := false) (implicitDefEqProofs := false) (maxSteps := 1000000) (disch := omega) only [go_sem, Nat.reduceAdd, Nat.reduceMul, Nat.reduceEqDiff, Nat.reduceBEq, cond_true, cond_false, Nat.reduceLT, Nat.reduceLeDiff, Nat.reduceSub, Int.reduceToNat, Int.reduceLE, Int.reduceLT, Int.reduceEq, Int.reduceNe, Int.reduceAdd, Int.reduceSub, Int.reduceMul, Int.reduceNeg, UInt8.reduceToNat, decide_true, decide_false, decide_not, Int.cast_ofNat_Int, Int.natCast_add, Int.add_sub_cancel, Int.sub_add_cancel, Int.toNat_natCast, eq_self, not_true_eq_false, not_false_eq_true]
  exact endGrow rfl (.alloc hw (.refl M)) (by rw [hr])
theorem trimL_same (c l : List UInt8) (hl : l.length < 1000000000) (hc : c.length < 1000) (hc2 : 2 ≤ c.length) (ha : ∀ x ∈ c, x.toNat < 128) : Same prog 18 [.string (bs l), .string (bs c)] (.string (bs (trimL c l))) := Same.of func18 rfl rfl (trimL_walk c l hl hc hc2 ha)
theorem trimR_rev (c : List UInt8) : ∀ (n : Nat) (l : List UInt8), trimR c.reverse n l = trimR c n l
  | 0, l => rfl
  | n + 1, l => by simp only [trimR, List.mem_reverse, trimR_rev c n]
theorem trimR_walk (c l : List UInt8) (hl : l.length < 1000000000) (hc : c.length < 1000) (hc2 : 2 ≤ c.length) (ha : ∀ x ∈ c, x.toNat < 128) : Pure 22 [.string (bs l), .string (bs c)] (.string (bs (trimR c l.length l))) := by
  intro G M
  have hr := trimR_rev c l.length l
  have hcn : ¬ c = [] := by intro h; rw [h] at hc2; simp at hc2
  refine ACalls.walk (N := 37) (rs := [.tmp 4]) func22 rfl rfl (by kernel_rfl) (by kernel_rfl) fun hw => ?_
  simp (dsimp := false) (implicitDefEqProofs := false) (maxSteps := 1000000) (disch := omega) only [go_sem, Nat.reduceAdd, Nat.reduceMul, Nat.reduceEqDiff, Nat.reduceBEq, cond_true, cond_false, Nat.reduceLT, Nat.reduceLeDiff, Nat.reduceSub, Int.reduceToNat, Int.reduceLE, Int.reduceLT, Int.reduceEq, Int.reduceNe, Int.reduceAdd, Int.reduceSub, Int.reduceMul, Int.reduceNeg, UInt8.reduceToNat, decide_true, decide_false, decide_not, Int.cast_ofNat_Int, Int.natCast_add, Int.add_sub_cancel, Int.sub_add_cancel, Int.toNat_natCast, eq_self, not_true_eq_false, not_false_eq_true]
  refine Br.of (fun h1 => ?_) (fun h1 => ?_)
  · simp (dsimp := false) (implicitDefEqProofs := false) (maxSteps := 1000000) (disch := omega) only [go_sem, Nat.reduceAdd, Nat.reduceMul, Nat.reduceEqDiff, Nat.reduceBEq, cond_true, cond_false, Nat.reduceLT, Nat.reduceLeDiff, Nat.reduceSub, Int.reduceToNat, Int.reduceLE, Int.reduceLT, Int.reduceEq, Int.reduceNe, Int.reduceAdd, Int.reduceSub, Int.reduceMul, Int.reduceNeg, UInt8.reduceToNat, decide_true, decide_false, decide_not, Int.cast_ofNat_Int, Int.natCast_add, Int.add_sub_cancel, Int.sub_add_cancel, Int.toNat_natCast, eq_self, not_true_eq_false, not_false_eq_true, h1]
    exact endSays rfl (Keep.refl _) (by subst h1; rfl)
  simp (dsimp := false) (implicitDefEqProofs := false) (maxSteps := 1000000) (disch := omega) only [go_sem, Nat.reduceAdd, Nat.reduceMul, Nat.reduceEqDiff, Nat.reduceBEq, cond_true, cond_false, Nat.reduceLT, Nat.reduceLeDiff, Nat.reduceSub, Int.reduceToNat, Int.reduceLE, Int.reduceLT, Int.reduceEq, Int.reduceNe, Int.reduceAdd, Int.reduceSub, Int.reduceMul, Int.reduceNeg, UInt8.reduceToNat, decide_true, decide_false, decide_not, Int.cast_ofNat_Int, Int.natCast_add, Int.add_sub_cancel, Int.sub_add_cancel, Int.toNat_natCast, eq_self, not_true_eq_false, not_false_eq_true, h1, hcn]
  refine Br.of (fun h2 => absurd h2 (by omega)) (fun h2 => ?_)
  simp (dsimp := false) (implicitDefEqProofs := false) (maxSteps := 1000000) (disch := omega) only [go_sem, Nat.reduceAdd, Nat.reduceMul, Nat.reduceEqDiff, Nat.reduceBEq, cond_true, cond_false, Nat.reduceLT, Nat.reduceLeDiff, Nat.reduceSub, Int.reduceToNat, Int.reduceLE, Int.reduceLT, Int.reduceEq, Int.reduceNe, Int.reduceAdd, Int.reduceSub, Int.reduceMul, Int.reduceNeg, UInt8.reduceToNat, decide_true, decide_false, decide_not, Int.cast_ofNat_Int, Int.natCast_add, Int.add_sub_cancel, Int.sub_add_cancel, Int.toNat_natCast, eq_self, not_true_eq_false, not_false_eq_true, h2]
  refine CF.same (set_same c hc ha) ?_
  simp (dsimp := false) (implicitDefEqProofs := false) (maxSteps := 1000000) (disch := omega) only [go_sem, Nat.reduceAdd, Nat.reduceMul, Nat.reduceEqDiff, Nat.reduceBEq, cond_true, cond_false, Nat.reduceLT, Nat.reduceLeDiff, Nat.reduceSub, Int.reduceToNat, Int.reduceLE, Int.reduceLT, Int.reduceEq, Int.reduceNe, Int.reduceAdd, Int.reduceSub, Int.reduceMul, Int.reduceNeg, UInt8.reduceToNat, decide_true, decide_false, decide_not, Int.cast_ofNat_Int, Int.natCast_add, Int.add_sub_cancel, Int.sub_add_cancel, Int.toNat_natCast, eq_self, not_true_eq_false, not_false_eq_true, tab_length, tab_ones, tab_nil, wr_tab]
  refine CF.at ((right_walk c.reverse l hl G _ M.next 61 0 false ?_).callF func48 rfl rfl) ?_
  · simp (dsimp := false) (implicitDefEqProofs := false) (maxSteps := 1000000) (disch := omega) only [go_sem, Nat.reduceAdd, Nat.reduceMul, Nat.reduceEqDiff, Nat.reduceBEq, cond_true, cond_false, Nat.reduceLT, Nat.reduceLeDiff, Nat.reduceSub, Int.reduceToNat, Int.reduceLE, Int.reduceLT, Int.reduceEq, Int.reduceNe, Int.reduceAdd, Int.reduceSub, Int.reduceMul, Int.reduceNeg, UInt8.reduceToNat, decide_true, decide_false, decide_not, Int.cast_ofNat_Int, Int.natCast_add, Int.add_sub_cancel, Int.sub_add_cancel, Int.toNat_natCast, eq_self, not_true_eq_false, not_false_eq_true, wr_tab, tab_nil]
  simp (dsimp := false) (implicitDefEqProofs := false) (maxSteps := 1000000) (disch := omega) only [go_sem, Nat.reduceAdd, Nat.reduceMul, Nat.reduceEqDiff, Nat.reduceBEq, cond_true, cond_false, Nat.reduceLT, Nat.reduceLeDiff, Nat.reduceSub, Int.reduceToNat, Int.reduceLE, Int.reduceLT, Int.reduceEq, Int.reduceNe, Int.reduceAdd, Int.reduceSub, Int.reduceMul, Int.reduceNeg, UInt8.reduceToNat, decide_true, decide_false, decide_not, Int.cast_ofNat_Int, Int.natCast_add, Int.add_sub_cancel, Int.sub_add_cancel, Int.toNat_natCast, eq_self, not_true_eq_false, not_false_eq_true]
  exact endGrow rfl (.alloc hw (.refl M)) (by rw [hr])
theorem trimR_same (c l : List UInt8) (hl : l.length < 1000000000) (hc : c.length < 1000) (hc2 : 2 ≤ c.length) (ha : ∀ x ∈ c, x.toNat < 128) : Same prog 22 [.string (bs l), .string (bs c)] (.string (bs (trimR c l.length l))) := Same.of func22 rfl rfl (trimR_walk c l hl hc hc2 ha)
end Go.Proofs.Tryd
