/-
  Walks of the seat of LexCuts, part 1: places.
-/
import Derived.Test.YtpljlblmagodlaaDoorFacts
import Derived.Test.YtpljlblmagodlaaDoorChecked
import Derived.Eval
set_option linter.unusedVariables false
set_option linter.unusedSimpArgs false
set_option linter.unusedSimpArgs false
set_option maxRecDepth 100000
set_option maxHeartbeats 4000000
namespace Go.Proofs.Tryd
open Go Go.AL
/-- A function that changes nothing. -/
abbrev Pure (f : FuncId) (args : List Value) (v : Value) : Prop := ∀ (G : Nat) (M : Mem), ACalls prog G f args M (Says v M)
theorem start_walk : Pure 12 [] (.agg #[.int .i64 0, .int .i64 1, .int .i64 1]) := by
  intro G M
  refine ACalls.walk (N := 2) (rs := [.cell 0 30]) func12 rfl rfl (by kernel_rfl) (by kernel_rfl) fun hw => ?_
  simp (dsimp := false) (implicitDefEqProofs := false) (maxSteps := 1000000) (disch := omega) only [go_sem, Nat.reduceAdd, Nat.reduceMul, Nat.reduceEqDiff, Nat.reduceBEq, cond_true, cond_false, Nat.reduceLT, Nat.reduceLeDiff, Nat.reduceSub, Int.reduceToNat, Int.reduceLE, Int.reduceLT, Int.reduceEq, Int.reduceNe, Int.reduceAdd, Int.reduceSub, Int.reduceMul, Int.reduceNeg, UInt8.reduceToNat, decide_true, decide_false, decide_not, Int.cast_ofNat_Int, Int.natCast_add, Int.add_sub_cancel, Int.sub_add_cancel, Int.toNat_natCast, eq_self, not_true_eq_false, not_false_eq_true]
  exact endSays rfl (Keep.alloc (.refl M) hw (Nat.le_refl _) _) rfl
theorem count_walk (l : List UInt8) (hl : l.length < 1000000000) : Pure 36 [.string (bs l)] (.int .i64 (count l)) := by
  intro G M
  refine ACalls.walk (N := 11) (rs := [.tmp 2]) func36 rfl rfl (by kernel_rfl) (by kernel_rfl) fun hw => ?_
  simp (dsimp := false) (implicitDefEqProofs := false) (maxSteps := 1000000) (disch := omega) only [go_sem, Nat.reduceAdd, Nat.reduceMul, Nat.reduceEqDiff, Nat.reduceBEq, cond_true, cond_false, Nat.reduceLT, Nat.reduceLeDiff, Nat.reduceSub, Int.reduceToNat, Int.reduceLE, Int.reduceLT, Int.reduceEq, Int.reduceNe, Int.reduceAdd, Int.reduceSub, Int.reduceMul, Int.reduceNeg, UInt8.reduceToNat, decide_true, decide_false, decide_not, Int.cast_ofNat_Int, Int.natCast_add, Int.add_sub_cancel, Int.sub_add_cancel, Int.toNat_natCast, eq_self, not_true_eq_false, not_false_eq_true]
  refine LP.by (fun a : Nat × Nat => [(3, .int .i64 a.2), (5, .pointer (some ⟨M.next, 0, none⟩))]) (fun a M' => a.1 ≤ l.length ∧ a.2 + count (l.drop a.1) = count l ∧ M' = M.alloc (.iter (bs l) a.1)) (fun a => l.length - a.1) (0, 0) (by kernel_rfl) (by simp) (by simp (dsimp := false) (implicitDefEqProofs := false) (maxSteps := 1000000) (disch := omega) only [go_sem, Nat.reduceAdd, Nat.reduceMul, Nat.reduceEqDiff, Nat.reduceBEq, cond_true, cond_false, Nat.reduceLT, Nat.reduceLeDiff, Nat.reduceSub, Int.reduceToNat, Int.reduceLE, Int.reduceLT, Int.reduceEq, Int.reduceNe, Int.reduceAdd, Int.reduceSub, Int.reduceMul, Int.reduceNeg, UInt8.reduceToNat, decide_true, decide_false, decide_not, Int.cast_ofNat_Int, Int.natCast_add, Int.add_sub_cancel, Int.sub_add_cancel, Int.toNat_natCast, eq_self, not_true_eq_false, not_false_eq_true]) ?_
  rintro ⟨at', n⟩ M' ⟨h1, h2, rfl⟩ ih
  simp only at h1 h2
  have hc : count l ≤ l.length := count_le _ l (Nat.le_refl _)
  simp (dsimp := false) (implicitDefEqProofs := false) (maxSteps := 1000000) (disch := omega) only [go_sem, Nat.reduceAdd, Nat.reduceMul, Nat.reduceEqDiff, Nat.reduceBEq, cond_true, cond_false, Nat.reduceLT, Nat.reduceLeDiff, Nat.reduceSub, Int.reduceToNat, Int.reduceLE, Int.reduceLT, Int.reduceEq, Int.reduceNe, Int.reduceAdd, Int.reduceSub, Int.reduceMul, Int.reduceNeg, UInt8.reduceToNat, decide_true, decide_false, decide_not, Int.cast_ofNat_Int, Int.natCast_add, Int.add_sub_cancel, Int.sub_add_cancel, Int.toNat_natCast, eq_self, not_true_eq_false, not_false_eq_true]
  refine Br.of (fun h => ?_) (fun h => ?_)
  · have h3 := count_step (l := l.drop at') (by simp; omega)
    have h4 := dec_le (l := l.drop at') (by simp; omega)
    have h5 := dec_pos (l.drop at')
    simp only [List.length_drop, List.drop_drop] at h3 h4
    simp (dsimp := false) (implicitDefEqProofs := false) (maxSteps := 1000000) (disch := omega) only [go_sem, Nat.reduceAdd, Nat.reduceMul, Nat.reduceEqDiff, Nat.reduceBEq, cond_true, cond_false, Nat.reduceLT, Nat.reduceLeDiff, Nat.reduceSub, Int.reduceToNat, Int.reduceLE, Int.reduceLT, Int.reduceEq, Int.reduceNe, Int.reduceAdd, Int.reduceSub, Int.reduceMul, Int.reduceNeg, UInt8.reduceToNat, decide_true, decide_false, decide_not, Int.cast_ofNat_Int, Int.natCast_add, Int.add_sub_cancel, Int.sub_add_cancel, Int.toNat_natCast, eq_self, not_true_eq_false, not_false_eq_true]
    refine ih (at' + (dec (l.drop at')).2, n + 1) _ _ (by simp only; omega) ⟨by simp only; omega, by simp only; omega, rfl⟩ (by simp (dsimp := false) (implicitDefEqProofs := false) (maxSteps := 1000000) (disch := omega) only [go_sem, Nat.reduceAdd, Nat.reduceMul, Nat.reduceEqDiff, Nat.reduceBEq, cond_true, cond_false, Nat.reduceLT, Nat.reduceLeDiff, Nat.reduceSub, Int.reduceToNat, Int.reduceLE, Int.reduceLT, Int.reduceEq, Int.reduceNe, Int.reduceAdd, Int.reduceSub, Int.reduceMul, Int.reduceNeg, UInt8.reduceToNat, decide_true, decide_false, decide_not, Int.cast_ofNat_Int, Int.natCast_add, Int.add_sub_cancel, Int.sub_add_cancel, Int.toNat_natCast, eq_self, not_true_eq_false, not_false_eq_true])
  · have h3 : l.drop at' = [] := List.drop_eq_nil_of_le (by omega)
    rw [h3, count_nil] at h2
    simp (dsimp := false) (implicitDefEqProofs := false) (maxSteps := 1000000) (disch := omega) only [go_sem, Nat.reduceAdd, Nat.reduceMul, Nat.reduceEqDiff, Nat.reduceBEq, cond_true, cond_false, Nat.reduceLT, Nat.reduceLeDiff, Nat.reduceSub, Int.reduceToNat, Int.reduceLE, Int.reduceLT, Int.reduceEq, Int.reduceNe, Int.reduceAdd, Int.reduceSub, Int.reduceMul, Int.reduceNeg, UInt8.reduceToNat, decide_true, decide_false, decide_not, Int.cast_ofNat_Int, Int.natCast_add, Int.add_sub_cancel, Int.sub_add_cancel, Int.toNat_natCast, eq_self, not_true_eq_false, not_false_eq_true]
    exact endSays rfl (Keep.alloc (.refl M) hw (Nat.le_refl _) _) (by rw [← h2]; rfl)
theorem count_same (l : List UInt8) (hl : l.length < 1000000000) : Same prog 36 [.string (bs l)] (.int .i64 (count l)) := Same.of func36 rfl rfl (count_walk l hl)
theorem start_same : Same prog 12 [] (.agg #[.int .i64 0, .int .i64 1, .int .i64 1]) := Same.of func12 rfl rfl start_walk
theorem get_some {l : List UInt8} {i : Nat} (h : i < l.length) : l[i]? = some (l.getD i 0) := by simp [h]
theorem ext34 (l : List UInt8) (c : UInt8) : Same prog 34 [.string (bs l), .int .u8 c.toNat] (.int .i64 (l.count c)) := by
  intro G M
  refine ACallF.extern func34 rfl rfl (by kernel_rfl) (e := Extern.BytealgCount.count) (by kernel_rfl) rfl rfl fun w => ?_
  have := Lib.run_countString (P := prog) (bs l) c.toNat w
  simpa [bs_data, Lib.countByte] using this
theorem strCount_walk (l : List UInt8) : Pure 19 [.string (bs l), .string (bs [10])] (.int .i64 (l.count 10)) := by
  intro G M
  refine ACalls.walk (N := 34) (rs := [.tmp 4]) func19 rfl rfl (by kernel_rfl) (by kernel_rfl) fun hw => ?_
  simp (dsimp := false) (implicitDefEqProofs := false) (maxSteps := 1000000) (disch := omega) only [go_sem, Nat.reduceAdd, Nat.reduceMul, Nat.reduceEqDiff, Nat.reduceBEq, cond_true, cond_false, Nat.reduceLT, Nat.reduceLeDiff, Nat.reduceSub, Int.reduceToNat, Int.reduceLE, Int.reduceLT, Int.reduceEq, Int.reduceNe, Int.reduceAdd, Int.reduceSub, Int.reduceMul, Int.reduceNeg, UInt8.reduceToNat, decide_true, decide_false, decide_not, Int.cast_ofNat_Int, Int.natCast_add, Int.add_sub_cancel, Int.sub_add_cancel, Int.toNat_natCast, eq_self, not_true_eq_false, not_false_eq_true]
  refine CF.same (ext34 l 10) ?_
  simp (dsimp := false) (implicitDefEqProofs := false) (maxSteps := 1000000) (disch := omega) only [go_sem, Nat.reduceAdd, Nat.reduceMul, Nat.reduceEqDiff, Nat.reduceBEq, cond_true, cond_false, Nat.reduceLT, Nat.reduceLeDiff, Nat.reduceSub, Int.reduceToNat, Int.reduceLE, Int.reduceLT, Int.reduceEq, Int.reduceNe, Int.reduceAdd, Int.reduceSub, Int.reduceMul, Int.reduceNeg, UInt8.reduceToNat, decide_true, decide_false, decide_not, Int.cast_ofNat_Int, Int.natCast_add, Int.add_sub_cancel, Int.sub_add_cancel, Int.toNat_natCast, eq_self, not_true_eq_false, not_false_eq_true]
  exact endSays rfl (Keep.refl M) rfl
theorem strCount_same (l : List UInt8) : Same prog 19 [.string (bs l), .string (bs [10])] (.int .i64 (l.count 10)) := Same.of func19 rfl rfl (strCount_walk l)
/-- Where a byte stands last before a place; -1: nowhere. -/
def lastB (l : List UInt8) (c : UInt8) : Nat → Int
  | 0 => -1
  | n + 1 => if l.getD n 0 = c then n else lastB l c n
theorem last60_walk (l : List UInt8) (c : UInt8) (hl : l.length < 1000000000) : Pure 60 [.string (bs l), .int .u8 c.toNat] (.int .i64 (lastB l c l.length)) := by
  intro G M
  refine ACalls.walk (N := 19) (rs := [.tmp 4]) func60 rfl rfl (by kernel_rfl) (by kernel_rfl) fun hw => ?_
  simp (dsimp := false) (implicitDefEqProofs := false) (maxSteps := 1000000) (disch := omega) only [go_sem, Nat.reduceAdd, Nat.reduceMul, Nat.reduceEqDiff, Nat.reduceBEq, cond_true, cond_false, Nat.reduceLT, Nat.reduceLeDiff, Nat.reduceSub, Int.reduceToNat, Int.reduceLE, Int.reduceLT, Int.reduceEq, Int.reduceNe, Int.reduceAdd, Int.reduceSub, Int.reduceMul, Int.reduceNeg, UInt8.reduceToNat, decide_true, decide_false, decide_not, Int.cast_ofNat_Int, Int.natCast_add, Int.add_sub_cancel, Int.sub_add_cancel, Int.toNat_natCast, eq_self, not_true_eq_false, not_false_eq_true]
  refine LP.by (fun a : Nat => [(0, .string (bs l)), (1, .int .u8 c.toNat), (5, .int .i64 ((a : Int) - 1))]) (fun a M' => a ≤ l.length ∧ lastB l c l.length = lastB l c a ∧ M' = M) (fun a => a) l.length (by kernel_rfl) (by simp) (by simp (dsimp := false) (implicitDefEqProofs := false) (maxSteps := 1000000) (disch := omega) only [go_sem, Nat.reduceAdd, Nat.reduceMul, Nat.reduceEqDiff, Nat.reduceBEq, cond_true, cond_false, Nat.reduceLT, Nat.reduceLeDiff, Nat.reduceSub, Int.reduceToNat, Int.reduceLE, Int.reduceLT, Int.reduceEq, Int.reduceNe, Int.reduceAdd, Int.reduceSub, Int.reduceMul, Int.reduceNeg, UInt8.reduceToNat, decide_true, decide_false, decide_not, Int.cast_ofNat_Int, Int.natCast_add, Int.add_sub_cancel, Int.sub_add_cancel, Int.toNat_natCast, eq_self, not_true_eq_false, not_false_eq_true]) ?_
  rintro a M' ⟨h1, h2, rfl⟩ ih
  simp (dsimp := false) (implicitDefEqProofs := false) (maxSteps := 1000000) (disch := omega) only [go_sem, Nat.reduceAdd, Nat.reduceMul, Nat.reduceEqDiff, Nat.reduceBEq, cond_true, cond_false, Nat.reduceLT, Nat.reduceLeDiff, Nat.reduceSub, Int.reduceToNat, Int.reduceLE, Int.reduceLT, Int.reduceEq, Int.reduceNe, Int.reduceAdd, Int.reduceSub, Int.reduceMul, Int.reduceNeg, UInt8.reduceToNat, decide_true, decide_false, decide_not, Int.cast_ofNat_Int, Int.natCast_add, Int.add_sub_cancel, Int.sub_add_cancel, Int.toNat_natCast, eq_self, not_true_eq_false, not_false_eq_true]
  refine Br.of (fun h => ?_) (fun h => ?_)
  · obtain ⟨a, rfl⟩ : ∃ b, a = b + 1 := ⟨a - 1, by omega⟩
    simp (dsimp := false) (implicitDefEqProofs := false) (maxSteps := 1000000) (disch := omega) only [go_sem, Nat.reduceAdd, Nat.reduceMul, Nat.reduceEqDiff, Nat.reduceBEq, cond_true, cond_false, Nat.reduceLT, Nat.reduceLeDiff, Nat.reduceSub, Int.reduceToNat, Int.reduceLE, Int.reduceLT, Int.reduceEq, Int.reduceNe, Int.reduceAdd, Int.reduceSub, Int.reduceMul, Int.reduceNeg, UInt8.reduceToNat, decide_true, decide_false, decide_not, Int.cast_ofNat_Int, Int.natCast_add, Int.add_sub_cancel, Int.sub_add_cancel, Int.toNat_natCast, eq_self, not_true_eq_false, not_false_eq_true, get_some]
    refine ⟨by omega, Br.of (fun h3 => ?_) (fun h3 => ?_)⟩
    · have : l.getD a 0 = c := by apply UInt8.toNat.inj; omega
      simp (dsimp := false) (implicitDefEqProofs := false) (maxSteps := 1000000) (disch := omega) only [go_sem, Nat.reduceAdd, Nat.reduceMul, Nat.reduceEqDiff, Nat.reduceBEq, cond_true, cond_false, Nat.reduceLT, Nat.reduceLeDiff, Nat.reduceSub, Int.reduceToNat, Int.reduceLE, Int.reduceLT, Int.reduceEq, Int.reduceNe, Int.reduceAdd, Int.reduceSub, Int.reduceMul, Int.reduceNeg, UInt8.reduceToNat, decide_true, decide_false, decide_not, Int.cast_ofNat_Int, Int.natCast_add, Int.add_sub_cancel, Int.sub_add_cancel, Int.toNat_natCast, eq_self, not_true_eq_false, not_false_eq_true]
      exact endSays rfl (Keep.refl _) (by rw [h2, lastB, if_pos this])
    · have : ¬ l.getD a 0 = c := fun e => h3 (by rw [e])
      simp (dsimp := false) (implicitDefEqProofs := false) (maxSteps := 1000000) (disch := omega) only [go_sem, Nat.reduceAdd, Nat.reduceMul, Nat.reduceEqDiff, Nat.reduceBEq, cond_true, cond_false, Nat.reduceLT, Nat.reduceLeDiff, Nat.reduceSub, Int.reduceToNat, Int.reduceLE, Int.reduceLT, Int.reduceEq, Int.reduceNe, Int.reduceAdd, Int.reduceSub, Int.reduceMul, Int.reduceNeg, UInt8.reduceToNat, decide_true, decide_false, decide_not, Int.cast_ofNat_Int, Int.natCast_add, Int.add_sub_cancel, Int.sub_add_cancel, Int.toNat_natCast, eq_self, not_true_eq_false, not_false_eq_true]
      exact ih a _ _ (by omega) ⟨by omega, by rw [h2, lastB, if_neg this], rfl⟩ (by simp (dsimp := false) (implicitDefEqProofs := false) (maxSteps := 1000000) (disch := omega) only [go_sem, Nat.reduceAdd, Nat.reduceMul, Nat.reduceEqDiff, Nat.reduceBEq, cond_true, cond_false, Nat.reduceLT, Nat.reduceLeDiff, Nat.reduceSub, Int.reduceToNat, Int.reduceLE, Int.reduceLT, Int.reduceEq, Int.reduceNe, Int.reduceAdd, Int.reduceSub, Int.reduceMul, Int.reduceNeg, UInt8.reduceToNat, decide_true, decide_false, decide_not, Int.cast_ofNat_Int, Int.natCast_add, Int.add_sub_cancel, Int.sub_add_cancel, Int.toNat_natCast, eq_self, not_true_eq_false, not_false_eq_true])
  · obtain rfl : a = 0 := by omega
    simp (dsimp := false) (implicitDefEqProofs := false) (maxSteps := 1000000) (disch := omega) only [go_sem, Nat.reduceAdd, Nat.reduceMul, Nat.reduceEqDiff, Nat.reduceBEq, cond_true, cond_false, Nat.reduceLT, Nat.reduceLeDiff, Nat.reduceSub, Int.reduceToNat, Int.reduceLE, Int.reduceLT, Int.reduceEq, Int.reduceNe, Int.reduceAdd, Int.reduceSub, Int.reduceMul, Int.reduceNeg, UInt8.reduceToNat, decide_true, decide_false, decide_not, Int.cast_ofNat_Int, Int.natCast_add, Int.add_sub_cancel, Int.sub_add_cancel, Int.toNat_natCast, eq_self, not_true_eq_false, not_false_eq_true]
    exact endSays rfl (Keep.refl _) (by rw [h2]; rfl)
theorem last60_same (l : List UInt8) (c : UInt8) (hl : l.length < 1000000000) : Same prog 60 [.string (bs l), .int .u8 c.toNat] (.int .i64 (lastB l c l.length)) := Same.of func60 rfl rfl (last60_walk l c hl)
theorem last37_walk (l : List UInt8) (c : UInt8) (hl : l.length < 1000000000) : Pure 37 [.string (bs l), .int .u8 c.toNat] (.int .i64 (lastB l c l.length)) := by
  intro G M
  refine ACalls.walk (N := 8) (rs := [.tmp 4]) func37 rfl rfl (by kernel_rfl) (by kernel_rfl) fun hw => ?_
  simp (dsimp := false) (implicitDefEqProofs := false) (maxSteps := 1000000) (disch := omega) only [go_sem, Nat.reduceAdd, Nat.reduceMul, Nat.reduceEqDiff, Nat.reduceBEq, cond_true, cond_false, Nat.reduceLT, Nat.reduceLeDiff, Nat.reduceSub, Int.reduceToNat, Int.reduceLE, Int.reduceLT, Int.reduceEq, Int.reduceNe, Int.reduceAdd, Int.reduceSub, Int.reduceMul, Int.reduceNeg, UInt8.reduceToNat, decide_true, decide_false, decide_not, Int.cast_ofNat_Int, Int.natCast_add, Int.add_sub_cancel, Int.sub_add_cancel, Int.toNat_natCast, eq_self, not_true_eq_false, not_false_eq_true]
  refine CF.same (last60_same l c hl) ?_
  simp (dsimp := false) (implicitDefEqProofs := false) (maxSteps := 1000000) (disch := omega) only [go_sem, Nat.reduceAdd, Nat.reduceMul, Nat.reduceEqDiff, Nat.reduceBEq, cond_true, cond_false, Nat.reduceLT, Nat.reduceLeDiff, Nat.reduceSub, Int.reduceToNat, Int.reduceLE, Int.reduceLT, Int.reduceEq, Int.reduceNe, Int.reduceAdd, Int.reduceSub, Int.reduceMul, Int.reduceNeg, UInt8.reduceToNat, decide_true, decide_false, decide_not, Int.cast_ofNat_Int, Int.natCast_add, Int.add_sub_cancel, Int.sub_add_cancel, Int.toNat_natCast, eq_self, not_true_eq_false, not_false_eq_true]
  exact endSays rfl (Keep.refl _) rfl
theorem last37_same (l : List UInt8) (c : UInt8) (hl : l.length < 1000000000) : Same prog 37 [.string (bs l), .int .u8 c.toNat] (.int .i64 (lastB l c l.length)) := Same.of func37 rfl rfl (last37_walk l c hl)
/-- How many bytes stand up to the last line feed, with it. -/
def lastNl (l : List UInt8) : Nat := (lastB l 10 l.length + 1).toNat
theorem lastB_ge (l : List UInt8) (c : UInt8) : ∀ n, -1 ≤ lastB l c n ∧ lastB l c n < n
  | 0 => by simp [lastB]
  | n + 1 => by
    have := lastB_ge l c n
    simp only [lastB]
    split <;> omega
structure Pl where
  at' : Nat
  ln : Nat
  col : Nat
def Pl.v (p : Pl) : Value := .agg #[.int .i64 p.at', .int .i64 p.ln, .int .i64 p.col]
def adv (p : Pl) (l : List UInt8) : Pl := ⟨p.at' + l.length, p.ln + l.count 10, (if l.count 10 = 0 then p.col else 1) + count (l.drop (lastNl l))⟩
def Pl.ok (p : Pl) : Prop := p.at' < 1000000000000 ∧ p.ln < 1000000000000 ∧ p.col < 1000000000000
def F37 : List Value → Option Value
  | [.string s, .int .u8 n] => if n = 10 ∧ s.data.toList.length < 1000000000 then some (.int .i64 (lastB s.data.toList 10 s.data.toList.length)) else none
  | _ => none
def F36 : List Value → Option Value
  | [.string s] => if s.data.toList.length < 1000000000 then some (.int .i64 (count s.data.toList)) else none
  | _ => none
theorem F37_eq {l : List UInt8} : F37 [.string (bs l), .int .u8 10] = if l.length < 1000000000 then some (.int .i64 (lastB l 10 l.length)) else none := by simp [F37, bs_data]
theorem F36_eq {l : List UInt8} : F36 [.string (bs l)] = if l.length < 1000000000 then some (.int .i64 (count l)) else none := by simp [F36, bs_data]
def pfAdv : PF := fun f => if f = 37 then some F37 else if f = 36 then some F36 else none
theorem pfAdv_ok (G : Nat) : pfAdv.ok prog G := by
  intro f F args v M h1 h2
  unfold pfAdv at h1
  split at h1
  · rename_i hf
    cases h1
    subst hf
    unfold F37 at h2
    split at h2 <;> try (cases h2; done)
    rename_i s n
    split at h2 <;> cases h2
    rename_i hc
    have := last37_same s.data.toList 10 hc.2 G M
    rw [← bs_of s] at this
    rw [hc.1]
    exact this
  · split at h1 <;> cases h1
    rename_i hf
    subst hf
    unfold F36 at h2
    split at h2 <;> try (cases h2; done)
    rename_i s
    split at h2 <;> cases h2
    rename_i hc
    have := count_same s.data.toList hc G M
    rw [← bs_of s] at this
    exact this
theorem pfAdv37 : pfAdv 37 = some F37 := rfl
theorem pfAdv36 : pfAdv 36 = some F36 := rfl
theorem adv_walk (p : Pl) (l : List UInt8) (hp : p.ok) (hl : l.length < 1000000000) : Pure 20 [p.v, .string (bs l)] (adv p l).v := by
  intro G M
  obtain ⟨at', ln, col⟩ := p
  obtain ⟨hp1, hp2, hp3⟩ := hp
  simp only at hp1 hp2 hp3
  refine ACalls.walk (N := 35) (rs := [.cell 4 30]) func20 rfl rfl (by kernel_rfl) (by kernel_rfl) fun hw => ?_
  have hc1 : l.count 10 ≤ l.length := List.count_le_length
  have hc2 := count_le _ (l.drop (lastNl l)) (Nat.le_refl _)
  simp only [List.length_drop] at hc2
  have hb := lastB_ge l 10 l.length
  simp (dsimp := false) (implicitDefEqProofs := false) (maxSteps := 1000000) (disch := omega) only [go_sem, Nat.reduceAdd, Nat.reduceMul, Nat.reduceEqDiff, Nat.reduceBEq, cond_true, cond_false, Nat.reduceLT, Nat.reduceLeDiff, Nat.reduceSub, Int.reduceToNat, Int.reduceLE, Int.reduceLT, Int.reduceEq, Int.reduceNe, Int.reduceAdd, Int.reduceSub, Int.reduceMul, Int.reduceNeg, UInt8.reduceToNat, decide_true, decide_false, decide_not, Int.cast_ofNat_Int, Int.natCast_add, Int.add_sub_cancel, Int.sub_add_cancel, Int.toNat_natCast, eq_self, not_true_eq_false, not_false_eq_true, Pl.v]
  have hN : (lastB l 10 l.length + 1).toNat = lastNl l := rfl
  refine CF.same (strCount_same l) ?_
  simp (dsimp := false) (implicitDefEqProofs := false) (maxSteps := 1000000) (disch := omega) only [go_sem, Nat.reduceAdd, Nat.reduceMul, Nat.reduceEqDiff, Nat.reduceBEq, cond_true, cond_false, Nat.reduceLT, Nat.reduceLeDiff, Nat.reduceSub, Int.reduceToNat, Int.reduceLE, Int.reduceLT, Int.reduceEq, Int.reduceNe, Int.reduceAdd, Int.reduceSub, Int.reduceMul, Int.reduceNeg, UInt8.reduceToNat, decide_true, decide_false, decide_not, Int.cast_ofNat_Int, Int.natCast_add, Int.add_sub_cancel, Int.sub_add_cancel, Int.toNat_natCast, eq_self, not_true_eq_false, not_false_eq_true]
  refine Br.of (fun h => ?_) (fun h => ?_)
  · simp (dsimp := false) (implicitDefEqProofs := false) (maxSteps := 1000000) (disch := omega) only [go_sem, Nat.reduceAdd, Nat.reduceMul, Nat.reduceEqDiff, Nat.reduceBEq, cond_true, cond_false, Nat.reduceLT, Nat.reduceLeDiff, Nat.reduceSub, Int.reduceToNat, Int.reduceLE, Int.reduceLT, Int.reduceEq, Int.reduceNe, Int.reduceAdd, Int.reduceSub, Int.reduceMul, Int.reduceNeg, UInt8.reduceToNat, decide_true, decide_false, decide_not, Int.cast_ofNat_Int, Int.natCast_add, Int.add_sub_cancel, Int.sub_add_cancel, Int.toNat_natCast, eq_self, not_true_eq_false, not_false_eq_true]
    refine DR.way (pf := pfAdv) [0,1,2,3,4,5,6,7,8,9,10] checked.mixed (pfAdv_ok G) (by kernel_rfl) ?_
    simp (dsimp := false) (implicitDefEqProofs := false) (maxSteps := 1000000) (disch := omega) only [go_sem, Nat.reduceAdd, Nat.reduceMul, Nat.reduceEqDiff, Nat.reduceBEq, cond_true, cond_false, Nat.reduceLT, Nat.reduceLeDiff, Nat.reduceSub, Int.reduceToNat, Int.reduceLE, Int.reduceLT, Int.reduceEq, Int.reduceNe, Int.reduceAdd, Int.reduceSub, Int.reduceMul, Int.reduceNeg, UInt8.reduceToNat, decide_true, decide_false, decide_not, Int.cast_ofNat_Int, Int.natCast_add, Int.add_sub_cancel, Int.sub_add_cancel, Int.toNat_natCast, eq_self, not_true_eq_false, not_false_eq_true, pfAdv37, pfAdv36, F37_eq, F36_eq, Option.isNone_some, hN, List.length_drop]
    refine ⟨hl, by omega, by omega, ?_⟩
    have h' : l.count 10 = 0 := by omega
    exact endGrow rfl (.alloc hw (.alloc hw (.alloc hw (.refl M)))) (by simp [adv, Pl.v, h'])
  · simp (dsimp := false) (implicitDefEqProofs := false) (maxSteps := 1000000) (disch := omega) only [go_sem, Nat.reduceAdd, Nat.reduceMul, Nat.reduceEqDiff, Nat.reduceBEq, cond_true, cond_false, Nat.reduceLT, Nat.reduceLeDiff, Nat.reduceSub, Int.reduceToNat, Int.reduceLE, Int.reduceLT, Int.reduceEq, Int.reduceNe, Int.reduceAdd, Int.reduceSub, Int.reduceMul, Int.reduceNeg, UInt8.reduceToNat, decide_true, decide_false, decide_not, Int.cast_ofNat_Int, Int.natCast_add, Int.add_sub_cancel, Int.sub_add_cancel, Int.toNat_natCast, eq_self, not_true_eq_false, not_false_eq_true]
    refine DR.way (pf := pfAdv) [0,1,2,3,4,5,6,7,8,9,10] checked.mixed (pfAdv_ok G) (by kernel_rfl) ?_
    simp (dsimp := false) (implicitDefEqProofs := false) (maxSteps := 1000000) (disch := omega) only [go_sem, Nat.reduceAdd, Nat.reduceMul, Nat.reduceEqDiff, Nat.reduceBEq, cond_true, cond_false, Nat.reduceLT, Nat.reduceLeDiff, Nat.reduceSub, Int.reduceToNat, Int.reduceLE, Int.reduceLT, Int.reduceEq, Int.reduceNe, Int.reduceAdd, Int.reduceSub, Int.reduceMul, Int.reduceNeg, UInt8.reduceToNat, decide_true, decide_false, decide_not, Int.cast_ofNat_Int, Int.natCast_add, Int.add_sub_cancel, Int.sub_add_cancel, Int.toNat_natCast, eq_self, not_true_eq_false, not_false_eq_true, pfAdv37, pfAdv36, F37_eq, F36_eq, Option.isNone_some, hN, List.length_drop]
    refine ⟨hl, by omega, by omega, ?_⟩
    have h' : ¬ l.count 10 = 0 := by omega
    exact endGrow rfl (.alloc hw (.alloc hw (.alloc hw (.refl M)))) (by simp [adv, Pl.v, h'])
theorem adv_same (p : Pl) (l : List UInt8) (hp : p.ok) (hl : l.length < 1000000000) : Same prog 20 [p.v, .string (bs l)] (adv p l).v := Same.of func20 rfl rfl (adv_walk p l hp hl)
end Go.Proofs.Tryd
