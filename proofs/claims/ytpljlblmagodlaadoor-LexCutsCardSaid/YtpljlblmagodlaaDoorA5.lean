/-
  A help text: an abstract memory, and rules that run a loaded function over it (parts 23 to 23). No statement of the seat stands here.
-/
import Derived.Test.YtpljlblmagodlaaDoorA4
set_option linter.unusedVariables false
set_option linter.unusedSimpArgs false
/- The library of this session's own, part 23: slices over all of a block, that grow. -/
section
namespace Go.AL
open Go

/-- A slice over all of a block, or none. -/
def sl (o : Option Nat) (n : Nat) : Value :=
  match o with
  | none => .slice none 0 0
  | some k => .slice (some ⟨k, 0, none⟩) n n
theorem sl_none {n : Nat} : sl none n = .slice none 0 0 := rfl
theorem sl_some {k n : Nat} : sl (some k) n = .slice (some ⟨k, 0, none⟩) n n := rfl
theorem sl_one {o : Option Nat} {n : Nat} : (sl o n).oneCell' = true := by cases o <;> rfl
theorem cl_sl {o : Option Nat} {n : Nat} : cl (sl o n) = [sl o n] := by cases o <;> rfl
/-- A block of cells under a name, or none. -/
def Row (M : Mem) (o : Option Nat) (cs : List Value) (e : TypeId) : Prop :=
  match o with
  | none => cs = []
  | some k => M.get k = some (.cells cs e 0 false)
theorem Row.keep {M M' : Mem} {o : Option Nat} {cs : List Value} {e : TypeId} (h : Row M o cs e) (hk : ∀ k ob, o = some k → M.get k = some ob → M'.get k = some ob) : Row M' o cs e := by
  cases o with
  | none => exact h
  | some k => exact hk k _ rfl h
theorem Row.ne {M : Mem} {o : Option Nat} {cs : List Value} {e e' k fz : Nat} {ro : Bool} {cs' : List Value} (h : Row M o cs e) (hk : M.get k = some (.cells cs' e' fz ro)) (he : e ≠ e') : o ≠ some k := by
  rintro rfl
  have h' : M.get k = some (.cells cs e 0 false) := h
  rw [hk] at h'
  cases h'
  exact he rfl
theorem Row.ne2 {M : Mem} {o o' : Option Nat} {cs cs' : List Value} {e e' k : Nat} (h : Row M o cs e) (h' : Row M o' cs' e') (he : e ≠ e') (ho : o = some k) : o' ≠ some k := by
  subst ho
  exact h'.ne h (fun x => he x.symm)
theorem Row.lt {M : Mem} {o : Option Nat} {cs : List Value} {e k : Nat} (hw : WF M) (h : Row M o cs e) (ho : o = some k) : k < M.next := by
  subst ho
  exact hw.lt h
theorem Row.nil {M : Mem} {cs : List Value} {e : Nat} (h : Row M none cs e) : cs = [] := h
section
variable {P : Program} {G N : Nat}
theorem sl_len {t e : TypeId} {o : Option Nat} {n : Nat} (hu : P.underlying t = some (.slice e)) (h : o = none → n = 0) : aLen P t (sl o n) = some (.int .i64 n) := by
  cases o with
  | none => rw [h rfl, sl_none, len_l, hu]; rfl
  | some k => rw [sl_some, len_l, hu]; rfl
/-- Of a growing append: what is behind it. -/
structure Grown (M : Mem) (o : Option Nat) (cs : List Value) (e : TypeId) (M1 : Mem) : Prop where
  get : M1.get M.next = some (.cells cs e 0 false)
  next : M1.next = M.next + 1
  same : ∀ j, j ≠ M.next → o ≠ some j → M1.get j = M.get j
theorem Grown.own {M M1 : Mem} {o : Option Nat} {cs : List Value} {e : TypeId} (h : Grown M o cs e M1) (hw : WF M) : Own M M1 (fun j => o = some j) (fun j => j = M.next) where
  next := by rw [h.next]; omega
  keep := fun j ob hj hn => by
    have := hw.lt hj
    rw [h.same j (by omega) hn]; exact hj
  new := fun j hj => .inr (by omega)
theorem Grown.wf {M M1 : Mem} {o : Option Nat} {cs cs' : List Value} {e e' : TypeId} (h : Grown M o cs e M1) (hw : WF M) (hr : Row M o cs' e') : WF M1 := fun j hj => by
  rw [h.next] at hj
  rw [h.same j (by omega) (fun e => by have := hr.lt hw e; omega)]
  exact hw j (by omega)
/-- APPEND to a slice over all of a block: a new one. -/
theorem O1_append {t0 t1 : TypeId} {M : Mem} {o : Option Nat} {n size bytes m : Nat} {e : TypeId} {cs news : List Value} {u : Value} {K : Value × Eff → Prop} {mm : Mark K} (hrow : Row M o cs e) (hcs : cs.length = n * size) (hq : appQ P t0 t1 = some (e, size, bytes))
    (hn : newsOf M.get size u = some (m, news)) (hm : 0 < m) (hb : (n + m) * bytes ≤ 140737488355328) (hb2 : n + m ≤ 9223372036854775807) (hs : 0 < size)
    (h : ∀ E M1, E.app M = M1 → Grown M o (cs ++ news) e M1 → K (sl (some M.next) (n + m), E)) : O1 (aAppend P t0 t1 M.get M.next (sl o n) u) K mm := by
  cases o with
  | none =>
    have hcs0 : cs = [] := hrow
    subst hcs0
    have hn0 : n = 0 := by
      rcases Nat.eq_zero_or_pos n with h0 | h0
      · exact h0
      · have := Nat.mul_pos h0 hs; simp at hcs; omega
    subst hn0
    rw [sl_none, app_nil, hq, Option.bind_some, hn, Option.bind_some, appNew_eq, AB_neg (by omega), if_pos ⟨by simpa using hb, by omega⟩]
    have := h (.new (.cells news e 0 false)) _ rfl ⟨?_, ?_, ?_⟩
    · rw [O1_some]; simpa [sl_some] using this
    · simp only [app_new]; rw [get_alloc rfl]; rfl
    · rfl
    · intro j h1 _; simp only [app_new]; exact get_alloc' h1
  | some k =>
    have hk : M.get k = some (.cells cs e 0 false) := hrow
    rw [sl_some, app_at, hq, Option.bind_some, hn, Option.bind_some, AB_neg (by simp only; omega), AB_neg (by simp only; omega), hk, moveO_cells, if_pos ⟨rfl, by omega, by omega, hb, hb2⟩]
    have hcs' : (cs.drop 0).take (n * size) = cs := by rw [List.drop_zero]; exact List.take_of_length_le (by omega)
    rw [hcs']
    have := h (.move k (.cells (cs ++ news) e 0 false)) _ rfl ⟨?_, ?_, ?_⟩
    · exact this
    · simp only [app_move]; exact get_move rfl
    · rfl
    · intro j h1 h2; simp only [app_move]; exact get_move' h1 (fun e => h2 (by rw [e]))
/-- Of an append, of nothing too: what is behind it. -/
structure Joined (M : Mem) (o : Option Nat) (cs : List Value) (e : TypeId) (o' : Option Nat) (M1 : Mem) : Prop where
  row : Row M1 o' cs e
  who : o' = o ∨ o' = some M.next
  next : M.next ≤ M1.next
  same : ∀ j, j ≠ M.next → o ≠ some j → M1.get j = M.get j
  wf : WF M → WF M1
theorem Joined.own {M M1 : Mem} {o o' : Option Nat} {cs : List Value} {e : TypeId} (h : Joined M o cs e o' M1) (hw : WF M) : Own M M1 (fun j => o = some j) (fun j => o' = some j) where
  next := h.next
  keep := fun j ob hj hn => by
    have := hw.lt hj
    rw [h.same j (by omega) hn]; exact hj
  new := fun j hj => by
    rcases h.who with e | e
    · left; rw [← e]; exact hj
    · right; rw [e] at hj; cases hj; exact Nat.le_refl _
theorem O1_appendG {t0 t1 : TypeId} {M : Mem} {o : Option Nat} {n size bytes m : Nat} {e : TypeId} {cs news : List Value} {u : Value} {K : Value × Eff → Prop} {mm : Mark K} (hrow : Row M o cs e) (hcs : cs.length = n * size) (hq : appQ P t0 t1 = some (e, size, bytes))
    (hn : newsOf M.get size u = some (m, news)) (hnl : news.length = m * size) (hb : (n + m) * bytes ≤ 140737488355328) (hb2 : n + m ≤ 9223372036854775807) (hs : 0 < size)
    (h : ∀ E M1 o', E.app M = M1 → Joined M o (cs ++ news) e o' M1 → K (sl o' (n + m), E)) : O1 (aAppend P t0 t1 M.get M.next (sl o n) u) K mm := by
  rcases Nat.eq_zero_or_pos m with h0 | h0
  · subst h0
    have hnn : news = [] := List.eq_nil_of_length_eq_zero (by omega)
    subst hnn
    have hk := h .none M o rfl ⟨by simpa using hrow, .inl rfl, Nat.le_refl _, fun _ _ _ => rfl, id⟩
    cases o with
    | none =>
      have hcs0 : cs = [] := hrow
      subst hcs0
      have hn0 : n = 0 := by
        rcases Nat.eq_zero_or_pos n with h0 | h0
        · exact h0
        · have := Nat.mul_pos h0 hs; simp at hcs; omega
      subst hn0
      rw [sl_none, app_nil, hq, Option.bind_some, hn, Option.bind_some, appNew_eq, AB_pos rfl, O1_some]
      exact hk
    | some k =>
      rw [sl_some, app_at, hq, Option.bind_some, hn, Option.bind_some, AB_pos rfl, O1_some]
      exact hk
  · refine O1_append hrow hcs hq hn h0 hb hb2 hs fun E M1 hE hG => h E M1 (some M.next) hE ⟨hG.get, .inr rfl, by rw [hG.next]; omega, hG.same, fun hw => hG.wf hw hrow⟩
/-- CONVERSION of bytes to a string. -/
theorem conv_sl {src dst : TypeId} {e b : TypeId} {M : Mem} {o : Option Nat} {l : List UInt8} (hq : elemQ P src = some (e, 1, b)) (hu : P.underlying e = some (.int .u8)) (hd : P.underlying dst = some .string) (hr : Row M o (bcs l) e) :
    aConvert P src dst M.get (sl o l.length) = some (.string (bs l)) := by
  cases o with
  | none =>
    have : bcs l = [] := hr
    have hl : l = [] := by have := congrArg List.length this; simpa [bcs_length] using this
    subst hl
    rw [sl_none, conv_slice, hq, hd]
    simp only [hu, news_nil]
    rfl
  | some k =>
    have hk : M.get k = some (.cells (bcs l) e 0 false) := hr
    rw [sl_some, conv_slice, hq, hd]
    simp only [hu, news_slice, hk]
    rw [newsO_fits (by rw [bcs_length]; omega)]
    simp only [List.drop_zero, Nat.mul_one]
    rw [List.take_of_length_le (by rw [bcs_length]; omega), bytesOf_bcs]
    rfl
/-- What is appended, out of a slice over all of a block. -/
theorem news_sl {M : Mem} {o : Option Nat} {cs : List Value} {e n size : Nat} (hr : Row M o cs e) (hl : cs.length = n * size) (hs : 0 < size) : newsOf M.get size (sl o n) = some (n, cs) := by
  cases o with
  | none =>
    have : cs = [] := hr
    subst this
    have hn0 : n = 0 := by
      rcases Nat.eq_zero_or_pos n with h0 | h0
      · exact h0
      · have := Nat.mul_pos h0 hs; simp at hl; omega
    subst hn0; rfl
  | some k =>
    have hk : M.get k = some (.cells cs e 0 false) := hr
    rw [sl_some, news_slice, hk, newsO_fits (by omega), List.drop_zero, List.take_of_length_le (by omega)]
end
/-- A slice that is built out of parts. -/
def bsPl (size len : Nat) : List (Nat × Nat) := (List.range len).map fun i => (i * size, size)
def bsO (z : TypeId × Nat × Nat) (zero : List Value) (len : Nat) (ps : List (Nat × Value)) : Option (TypeId × List Value) :=
  if zero.length = z.2.1 ∧ 0 < z.2.1 ∧ len * z.2.1 ≤ 16777216 then (fillL (bsPl z.2.1 len) (zerosL zero len) ps).map fun l => (z.1, l) else none
theorem bs_eq {P : Program} {t : TypeId} {len : Nat} {ps : List (Nat × Value)} : aBuildSlice P t len ps = (elemQ P t).bind fun z => (zeroF P z.1).bind fun zero => bsO z zero len ps := by
  simp only [aBuildSlice]
  cases elemQ P t with
  | none => rfl
  | some z => simp only [Option.bind_some]; cases zeroF P z.1 <;> rfl
theorem bsO_eq {a b c len : Nat} {zero : List Value} {ps : List (Nat × Value)} : bsO (a, b, c) zero len ps = if zero.length = b ∧ 0 < b ∧ len * b ≤ 16777216 then (fillL (bsPl b len) (zerosL zero len) ps).map fun l => (a, l) else none := rfl
theorem bsPl0 {b : Nat} : bsPl b 0 = [] := rfl
theorem bsPl1 {b : Nat} : bsPl b 1 = [(0 * b, b)] := rfl
theorem bsPl2 {b : Nat} : bsPl b 2 = [(0 * b, b), (1 * b, b)] := rfl
theorem bsPl3 {b : Nat} : bsPl b 3 = [(0 * b, b), (1 * b, b), (2 * b, b)] := rfl
theorem zl0 {z : List Value} : zerosL z 0 = [] := rfl
theorem zl1 {z : List Value} : zerosL z 1 = z ++ [] := rfl
theorem zl2 {z : List Value} : zerosL z 2 = z ++ (z ++ []) := rfl
theorem zl3 {z : List Value} : zerosL z 3 = z ++ (z ++ (z ++ [])) := rfl
attribute [go_sem] sl_one cl_sl bs_eq bsO_eq bsPl0 bsPl1 bsPl2 bsPl3 zl0 zl1 zl2 zl3
end Go.AL
end
