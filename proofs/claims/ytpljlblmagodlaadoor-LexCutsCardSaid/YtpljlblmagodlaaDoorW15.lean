/-
  Walks of the seat of LexCuts, part 15: the lexer's memory; what is wrong.
-/
import Derived.Test.YtpljlblmagodlaaDoorW14
import Derived.Test.YtpljlblmagodlaaDoorA5
set_option linter.unusedVariables false
set_option linter.unusedSimpArgs false
set_option linter.unusedSimpArgs false
set_option maxRecDepth 100000
set_option maxHeartbeats 4000000
namespace Go.Proofs.Tryd
open Go Go.AL
structure Tk where
  kind : Nat
  text : List UInt8
  pl : Pl
  feeds : Nat
def Tk.cells (t : Tk) : List Value := [.int .u8 t.kind, .string (bs t.text), .int .i64 t.pl.at', .int .i64 t.pl.ln, .int .i64 t.pl.col, .int .i64 t.feeds]
def tkCells (l : List Tk) : List Value := l.flatMap Tk.cells
theorem tkCells_length : ∀ l : List Tk, (tkCells l).length = l.length * 6
  | [] => rfl
  | t :: l => by have := tkCells_length l; simp only [tkCells, List.flatMap_cons, List.length_append, List.length_cons, Tk.cells, List.length_nil] at this ⊢; omega
theorem tkCells_snoc (l : List Tk) (t : Tk) : tkCells l ++ t.cells = tkCells (l ++ [t]) := by simp [tkCells]
theorem tk_ones : ∀ l : List Tk, (tkCells l).all (·.oneCell') = true
  | [] => rfl
  | t :: l => by have := tk_ones l; simp only [tkCells, List.flatMap_cons, List.all_append, Bool.and_eq_true] at this ⊢; exact ⟨rfl, this⟩
/-- What a lexer keeps. -/
structure LexS where
  state : Nat
  held : List UInt8
  opn : List UInt8
  beg : Pl
  here : Pl
  feeds : Nat
  wrong : Nat
  whr : Pl
  closed : Bool
  toks : List Tk
def lexCells (hv tv : Value) (s : LexS) : List Value :=
  [.int .u8 s.state, hv, .string (bs s.opn), .int .i64 s.beg.at', .int .i64 s.beg.ln, .int .i64 s.beg.col, .int .i64 s.here.at', .int .i64 s.here.ln, .int .i64 s.here.col, .int .i64 s.feeds, .int .i64 s.wrong, .int .i64 s.whr.at', .int .i64 s.whr.ln, .int .i64 s.whr.col, .bool s.closed, tv]
/-- A lexer lies at k, over the blocks F. -/
def LexAt (M : Mem) (k : Nat) (F : Nat → Prop) (s : LexS) : Prop :=
  ∃ hk tk, M.get k = some (.cells (lexCells (sl hk s.held.length) (sl tk s.toks.length) s) 44 0 false) ∧ Row M hk (bcs s.held) 5 ∧ Row M tk (tkCells s.toks) 39 ∧ ∀ j, F j ↔ j = k ∨ some j = hk ∨ some j = tk
/-- A call that turns the lexer. -/
def LexTo (k : Nat) (F : Nat → Prop) (M : Mem) (u : Value) (s : LexS) (v : Value) (M' : Mem) : Prop := v = u ∧ ∃ F', LexAt M' k F' s ∧ Own M M' F F'
def LexS.fail (s : LexS) (e : Nat) (p : Pl) : LexS := { s with wrong := e, whr := p }
abbrev lp (k : Nat) : Value := .pointer (some ⟨k, 0, none⟩)
theorem fail_walk (k e : Nat) (p : Pl) (hv tv : Value) (s : LexS) (G : Nat) (M : Mem) (hM : M.get k = some (.cells (lexCells hv tv s) 44 0 false)) :
    ACalls prog G 28 [lp k, .int .i64 e, p.v] M fun v M' => v = .tuple #[] ∧ M'.get k = some (.cells (lexCells hv tv (s.fail e p)) 44 0 false) ∧ Own M M' (· = k) (· = k) := by
  refine ACalls.walk (N := 14) (rs := []) func28 rfl rfl (by kernel_rfl) (by kernel_rfl) fun hw => ?_
  have hk := hw.lt hM
  have hk' : k ≠ M.next := by omega
  have hk2 : M.next ≠ k := by omega
  simp only [lexCells] at hM
  simp (dsimp := false) (implicitDefEqProofs := false) (maxSteps := 1000000) (disch := omega) only [go_sem, Nat.reduceAdd, Nat.reduceMul, Nat.reduceEqDiff, Nat.reduceBEq, cond_true, cond_false, Nat.reduceLT, Nat.reduceLeDiff, Nat.reduceSub, Int.reduceToNat, Int.reduceLE, Int.reduceLT, Int.reduceEq, Int.reduceNe, Int.reduceAdd, Int.reduceSub, Int.reduceMul, Int.reduceNeg, UInt8.reduceToNat, decide_true, decide_false, decide_not, Int.cast_ofNat_Int, Int.natCast_add, Int.add_sub_cancel, Int.sub_add_cancel, Int.toNat_natCast, eq_self, not_true_eq_false, not_false_eq_true, Pl.v]
  refine DR.wayF (pf := PF.none) [0,1,2,3,4,5,6,7,8,9] [M.next] [5] checked.mixed PF.none_ok (by kernel_rfl) ?_ ?_
  · intro t ht
    simp only [List.mem_singleton] at ht
    subst ht
    exact ⟨M.next, 0, by simp (dsimp := false) (implicitDefEqProofs := false) (maxSteps := 1000000) (disch := omega) only [go_sem, Nat.reduceAdd, Nat.reduceMul, Nat.reduceEqDiff, Nat.reduceBEq, cond_true, cond_false, Nat.reduceLT, Nat.reduceLeDiff, Nat.reduceSub, Int.reduceToNat, Int.reduceLE, Int.reduceLT, Int.reduceEq, Int.reduceNe, Int.reduceAdd, Int.reduceSub, Int.reduceMul, Int.reduceNeg, UInt8.reduceToNat, decide_true, decide_false, decide_not, Int.cast_ofNat_Int, Int.natCast_add, Int.add_sub_cancel, Int.sub_add_cancel, Int.toNat_natCast, eq_self, not_true_eq_false, not_false_eq_true], by simp⟩
  simp (dsimp := false) (implicitDefEqProofs := false) (maxSteps := 1000000) (disch := omega) only [go_sem, Nat.reduceAdd, Nat.reduceMul, Nat.reduceEqDiff, Nat.reduceBEq, cond_true, cond_false, Nat.reduceLT, Nat.reduceLeDiff, Nat.reduceSub, Int.reduceToNat, Int.reduceLE, Int.reduceLT, Int.reduceEq, Int.reduceNe, Int.reduceAdd, Int.reduceSub, Int.reduceMul, Int.reduceNeg, UInt8.reduceToNat, decide_true, decide_false, decide_not, Int.cast_ofNat_Int, Int.natCast_add, Int.add_sub_cancel, Int.sub_add_cancel, Int.toNat_natCast, eq_self, not_true_eq_false, not_false_eq_true, hM, hk', hk2]
  exact ⟨by simp [hk'], by simp [hk'], _, .less _ rfl (fun _ _ h => h), by simp (dsimp := false) (implicitDefEqProofs := false) (maxSteps := 1000000) (disch := omega) only [go_sem, Nat.reduceAdd, Nat.reduceMul, Nat.reduceEqDiff, Nat.reduceBEq, cond_true, cond_false, Nat.reduceLT, Nat.reduceLeDiff, Nat.reduceSub, Int.reduceToNat, Int.reduceLE, Int.reduceLT, Int.reduceEq, Int.reduceNe, Int.reduceAdd, Int.reduceSub, Int.reduceMul, Int.reduceNeg, UInt8.reduceToNat, decide_true, decide_false, decide_not, Int.cast_ofNat_Int, Int.natCast_add, Int.add_sub_cancel, Int.sub_add_cancel, Int.toNat_natCast, eq_self, not_true_eq_false, not_false_eq_true, hk', hk2]; rfl, .al hw (.st hw (.inl rfl) (.refl M _))⟩
theorem LexAt.row {M : Mem} {k : Nat} {F : Nat → Prop} {s : LexS} (h : LexAt M k F s) : F k := by
  obtain ⟨hk, tk, _, _, _, hF⟩ := h
  exact (hF k).2 (.inl rfl)
/-- lex.more's growing. -/
theorem more_walk (k : Nat) (s : LexS) (b : List UInt8) (F : Nat → Prop) (G : Nat) (M : Mem) (hL : LexAt M k F s) (hb : 0 < b.length) (hb2 : b.length < 1000000000) (hh : s.held.length < 1000000000) :
    ACalls prog G 53 [lp k, .string (bs b)] M (LexTo k F M (.bool (decide (s.held.length + b.length ≤ 65535))) (if s.held.length + b.length ≤ 65535 then { s with held := s.held ++ b } else s.fail 103 s.beg)) := by
  obtain ⟨hk, tk, hM, hH, hT, hF⟩ := hL
  refine ACalls.walk (N := 29) (rs := [.tmp 4]) func53 rfl rfl (by kernel_rfl) (by kernel_rfl) fun hw => ?_
  have hkl := hw.lt hM
  have hk1 : k ≠ M.next := by omega
  have hk2 : M.next ≠ k := by omega
  have hM' := hM
  simp only [lexCells] at hM
  have hsl : aLen prog 42 (sl hk s.held.length) = some (.int .i64 s.held.length) := sl_len (by exact q_u42) (by rintro rfl; have := congrArg List.length hH.nil; simpa [bcs_length] using this)
  have hkh : hk ≠ some k := hH.ne hM (by decide)
  have hkt : tk ≠ some k := hT.ne hM (by decide)
  simp (dsimp := false) (implicitDefEqProofs := false) (maxSteps := 1000000) (disch := omega) only [go_sem, Nat.reduceAdd, Nat.reduceMul, Nat.reduceEqDiff, Nat.reduceBEq, cond_true, cond_false, Nat.reduceLT, Nat.reduceLeDiff, Nat.reduceSub, Int.reduceToNat, Int.reduceLE, Int.reduceLT, Int.reduceEq, Int.reduceNe, Int.reduceAdd, Int.reduceSub, Int.reduceMul, Int.reduceNeg, UInt8.reduceToNat, decide_true, decide_false, decide_not, Int.cast_ofNat_Int, Int.natCast_add, Int.add_sub_cancel, Int.sub_add_cancel, Int.toNat_natCast, eq_self, not_true_eq_false, not_false_eq_true, hM, hsl]
  refine Br.of (fun h1 => ?_) (fun h1 => ?_)
  · simp (dsimp := false) (implicitDefEqProofs := false) (maxSteps := 1000000) (disch := omega) only [go_sem, Nat.reduceAdd, Nat.reduceMul, Nat.reduceEqDiff, Nat.reduceBEq, cond_true, cond_false, Nat.reduceLT, Nat.reduceLeDiff, Nat.reduceSub, Int.reduceToNat, Int.reduceLE, Int.reduceLT, Int.reduceEq, Int.reduceNe, Int.reduceAdd, Int.reduceSub, Int.reduceMul, Int.reduceNeg, UInt8.reduceToNat, decide_true, decide_false, decide_not, Int.cast_ofNat_Int, Int.natCast_add, Int.add_sub_cancel, Int.sub_add_cancel, Int.toNat_natCast, eq_self, not_true_eq_false, not_false_eq_true, hM]
    refine CF.by ((fail_walk k 103 s.beg (sl hk s.held.length) (sl tk s.toks.length) s G M hM').callF func28 rfl rfl) ?_
    rintro v M' ⟨rfl, h2, h3⟩
    simp (dsimp := false) (implicitDefEqProofs := false) (maxSteps := 1000000) (disch := omega) only [go_sem, Nat.reduceAdd, Nat.reduceMul, Nat.reduceEqDiff, Nat.reduceBEq, cond_true, cond_false, Nat.reduceLT, Nat.reduceLeDiff, Nat.reduceSub, Int.reduceToNat, Int.reduceLE, Int.reduceLT, Int.reduceEq, Int.reduceNe, Int.reduceAdd, Int.reduceSub, Int.reduceMul, Int.reduceNeg, UInt8.reduceToNat, decide_true, decide_false, decide_not, Int.cast_ofNat_Int, Int.natCast_add, Int.add_sub_cancel, Int.sub_add_cancel, Int.toNat_natCast, eq_self, not_true_eq_false, not_false_eq_true]
    refine endAll ⟨by rw [decide_eq_false (by omega)], F, ?_, (h3.more (F := (· = k)) (H := F) ?_).to fun j hj => .inl hj⟩
    · rw [if_neg (by omega)]
      exact ⟨hk, tk, h2, hH.keep fun j ob e1 e2 => h3.keep j ob e2 (by rintro rfl; exact hkh e1), hT.keep fun j ob e1 e2 => h3.keep j ob e2 (by rintro rfl; exact hkt e1), hF⟩
    · rintro j rfl; exact (hF _).2 (.inl rfl)
  · simp (dsimp := false) (implicitDefEqProofs := false) (maxSteps := 1000000) (disch := omega) only [go_sem, Nat.reduceAdd, Nat.reduceMul, Nat.reduceEqDiff, Nat.reduceBEq, cond_true, cond_false, Nat.reduceLT, Nat.reduceLeDiff, Nat.reduceSub, Int.reduceToNat, Int.reduceLE, Int.reduceLT, Int.reduceEq, Int.reduceNe, Int.reduceAdd, Int.reduceSub, Int.reduceMul, Int.reduceNeg, UInt8.reduceToNat, decide_true, decide_false, decide_not, Int.cast_ofNat_Int, Int.natCast_add, Int.add_sub_cancel, Int.sub_add_cancel, Int.toNat_natCast, eq_self, not_true_eq_false, not_false_eq_true, hM]
    refine O1_append hH (by rw [bcs_length, Nat.mul_one]) q_app42_9 (by rw [news_string, if_pos rfl]) hb (by omega) (by omega) (by omega) ?_
    intro E M1 hE hG
    have hk3 := hG.same k hk1 hkh
    rw [hM] at hk3
    simp (dsimp := false) (implicitDefEqProofs := false) (maxSteps := 1000000) (disch := omega) only [go_sem, Nat.reduceAdd, Nat.reduceMul, Nat.reduceEqDiff, Nat.reduceBEq, cond_true, cond_false, Nat.reduceLT, Nat.reduceLeDiff, Nat.reduceSub, Int.reduceToNat, Int.reduceLE, Int.reduceLT, Int.reduceEq, Int.reduceNe, Int.reduceAdd, Int.reduceSub, Int.reduceMul, Int.reduceNeg, UInt8.reduceToNat, decide_true, decide_false, decide_not, Int.cast_ofNat_Int, Int.natCast_add, Int.add_sub_cancel, Int.sub_add_cancel, Int.toNat_natCast, eq_self, not_true_eq_false, not_false_eq_true, hE, hk3]
    refine endAll ⟨by rw [decide_eq_true (by omega)], fun j => j = k ∨ j = M.next ∨ some j = tk, ?_, ?_⟩
    · rw [if_pos (by omega)]
      refine ⟨some M.next, tk, ?_, ?_, ?_, fun j => by simp⟩
      · rw [get_set]; simp only [lexCells, List.length_append]
      · show (M1.set k _).get M.next = _
        rw [get_set' (fun e => hk1 e.symm), hG.get, bcs_append]
      · refine hT.keep fun j ob e1 e2 => ?_
        rw [get_set' (by rintro rfl; exact hkt e1), hG.same j (by have := hw.lt e2; omega) (hH.ne2 hT (by decide) · e1)]
        exact e2
    · refine (Own.st hw (.inl ((hF k).2 (.inl rfl))) ((hG.own hw).more (H := F) fun j e => (hF j).2 (.inr (.inl e.symm)))).to fun j hj => ?_
      rcases hj with rfl | rfl | e
      · exact .inl ((hF _).2 (.inl rfl))
      · exact .inr (Nat.le_refl _)
      · exact .inl ((hF j).2 (.inr (.inr e)))
end Go.Proofs.Tryd
