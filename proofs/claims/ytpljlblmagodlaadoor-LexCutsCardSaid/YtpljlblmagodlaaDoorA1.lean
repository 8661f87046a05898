/-
  A help text: an abstract memory, and rules that run a loaded function over it (parts 1 to 9). No statement of the seat stands here.
-/
import Derived.Orders
import Derived.Laws.AppendOwn
import Derived.Laws.Cells
import GoSem.Core.Utf8
import Derived.Lib.UnsafeStr
set_option linter.unusedVariables false
set_option linter.unusedSimpArgs false
/- The library of this session's own: an abstract memory and what relates it to the machine's. Part 1: values, memory, the relation, and how it goes on from call to call. -/
section
namespace Go.AL
open Go

/-- What an abstract block holds: cells (those below `fz` are never written in place; `ro`: nothing is ever written), or an iterator over a string. -/
inductive AObj where
  | cells (cs : List Value) (elem : TypeId) (fz : Nat) (ro : Bool)
  | iter (s : ByteArray) (pos : Nat)

def AObj.ro : AObj → Bool
  | .cells _ _ _ r => r
  | .iter _ _ => false

@[ext] structure Mem where
  get : Nat → Option AObj
  next : Nat

/-- Where an abstract block lies: in which block of the machine's, from which cell on; how many cells that block has, and an element of it. -/
structure BI where
  blk : Nat
  shift : Nat
  size : Nat
  esz : Nat

inductive VRel (ρ : Nat → BI) (S : Nat → Prop) : Value → Value → Prop
  | bool (b : Bool) : VRel ρ S (.bool b) (.bool b)
  | int (k : IntKind) (i : Int) : VRel ρ S (.int k i) (.int k i)
  | string (s : ByteArray) : VRel ρ S (.string s) (.string s)
  | ptrNil : VRel ρ S (.pointer none) (.pointer none)
  | ptr (k off : Nat) (h : S k) : VRel ρ S (.pointer (some ⟨k, off, none⟩)) (.pointer (some ⟨(ρ k).blk, (ρ k).shift + off, none⟩))
  | sliceNil : VRel ρ S (.slice none 0 0) (.slice none 0 0)
  | slice (k off off' len cap cap' : Nat) (h : S k) (hl : len ≤ cap) (hc : cap ≤ cap') (ho : 0 < cap' → off' = (ρ k).shift + off) (hx : cap' = cap ∨ off' + cap' * (ρ k).esz ≤ (ρ k).size) :
      VRel ρ S (.slice (some ⟨k, off, none⟩) len cap) (.slice (some ⟨(ρ k).blk, off', none⟩) len cap')
  | sliceEmpty (a : Addr) : VRel ρ S (.slice (some ⟨0, 0, some 0⟩) 0 0) (.slice (some a) 0 0)
  | func (f : FuncId) (first first' captured captured' : Array Value) (h1 : first.size = first'.size) (h2 : captured.size = captured'.size)
      (h3 : ∀ i (h : i < first.size) (h' : i < first'.size), VRel ρ S first[i] first'[i])
      (h4 : ∀ i (h : i < captured.size) (h' : i < captured'.size), VRel ρ S captured[i] captured'[i]) :
      VRel ρ S (.func (.func f) first captured) (.func (.func f) first' captured')
  | nilFunc : VRel ρ S .nilFunc .nilFunc
  | mapNil : VRel ρ S (.map none) (.map none)
  | chanNil : VRel ρ S (.chan none) (.chan none)
  | iface (t : TypeId) (v v' : Value) (h : VRel ρ S v v') : VRel ρ S (.iface t v) (.iface t v')
  | nilIface : VRel ρ S .nilIface .nilIface
  | agg (cs cs' : Array Value) (hs : cs.size = cs'.size) (h : ∀ i (h : i < cs.size) (h' : i < cs'.size), VRel ρ S cs[i] cs'[i]) :
      VRel ρ S (.agg cs) (.agg cs')
  | tuple (cs cs' : Array Value) (hs : cs.size = cs'.size) (h : ∀ i (h : i < cs.size) (h' : i < cs'.size), VRel ρ S cs[i] cs'[i]) :
      VRel ρ S (.tuple cs) (.tuple cs')

theorem VRel.mono {ρ ρ' : Nat → BI} {S S' : Nat → Prop} (hρ : ∀ k, S k → ρ' k = ρ k) (hn : ∀ k, S k → S' k) {v v' : Value} (h : VRel ρ S v v') : VRel ρ' S' v v' := by
  induction h with
  | bool b => exact .bool b
  | int k i => exact .int k i
  | string s => exact .string s
  | ptrNil => exact .ptrNil
  | ptr k off h => rw [← hρ k h]; exact .ptr k off (hn k h)
  | sliceNil => exact .sliceNil
  | slice k off off' len cap cap' h hl hc ho hx => rw [← hρ k h] at ho hx ⊢; exact .slice k off off' len cap cap' (hn k h) hl hc ho hx
  | sliceEmpty a => exact .sliceEmpty a
  | func f first first' captured captured' h1 h2 _ _ i3 i4 => exact .func f _ _ _ _ h1 h2 i3 i4
  | nilFunc => exact .nilFunc
  | mapNil => exact .mapNil
  | chanNil => exact .chanNil
  | iface t v v' _ ih => exact .iface t _ _ ih
  | nilIface => exact .nilIface
  | agg cs cs' hs _ ih => exact .agg _ _ hs ih
  | tuple cs cs' hs _ ih => exact .tuple _ _ hs ih

/-- Lists of values, pointwise. -/
def LRel (ρ : Nat → BI) (S : Nat → Prop) (l l' : List Value) : Prop := l.length = l'.length ∧ ∀ i (h : i < l.length) (h' : i < l'.length), VRel ρ S l[i] l'[i]

theorem LRel.mono {ρ ρ' : Nat → BI} {S S' : Nat → Prop} (hρ : ∀ k, S k → ρ' k = ρ k) (hn : ∀ k, S k → S' k) {l l' : List Value} (h : LRel ρ S l l') : LRel ρ' S' l l' :=
  ⟨h.1, fun i a b => (h.2 i a b).mono hρ hn⟩
theorem LRel.nil {ρ : Nat → BI} {S : Nat → Prop} : LRel ρ S [] [] := ⟨rfl, fun _ h => by cases h⟩
theorem LRel.cons {ρ : Nat → BI} {S : Nat → Prop} {v v' : Value} {l l' : List Value} (h : VRel ρ S v v') (t : LRel ρ S l l') : LRel ρ S (v :: l) (v' :: l') :=
  ⟨by simp [t.1], fun i a b => by cases i with
    | zero => exact h
    | succ i => exact t.2 i (by simpa using a) (by simpa using b)⟩
theorem LRel.head {ρ : Nat → BI} {S : Nat → Prop} {v v' : Value} {l l' : List Value} (h : LRel ρ S (v :: l) (v' :: l')) : VRel ρ S v v' := h.2 0 (by simp) (by simp)
theorem LRel.tail {ρ : Nat → BI} {S : Nat → Prop} {v v' : Value} {l l' : List Value} (h : LRel ρ S (v :: l) (v' :: l')) : LRel ρ S l l' :=
  ⟨by simpa using h.1, fun i a b => h.2 (i + 1) (by simpa using a) (by simpa using b)⟩
theorem LRel.cons_inv {ρ : Nat → BI} {S : Nat → Prop} {v : Value} {l l' : List Value} (h : LRel ρ S (v :: l) l') : ∃ v' t', l' = v' :: t' ∧ VRel ρ S v v' ∧ LRel ρ S l t' := by
  cases l' with
  | nil => have := h.1; simp at this
  | cons v' t' => exact ⟨v', t', rfl, h.head, h.tail⟩
theorem LRel.nil_inv {ρ : Nat → BI} {S : Nat → Prop} {l' : List Value} (h : LRel ρ S [] l') : l' = [] := by
  have := h.1; cases l' with
  | nil => rfl
  | cons => simp at this
theorem LRel.get {ρ : Nat → BI} {S : Nat → Prop} {l l' : List Value} (h : LRel ρ S l l') {i : Nat} {v : Value} (hi : l[i]? = some v) : ∃ v', l'[i]? = some v' ∧ VRel ρ S v v' := by
  obtain ⟨hl, rfl⟩ := List.getElem?_eq_some_iff.1 hi
  have hl' : i < l'.length := by have := h.1; omega
  exact ⟨l'[i], List.getElem?_eq_getElem hl', h.2 i hl hl'⟩
theorem LRel.append {ρ : Nat → BI} {S : Nat → Prop} {l l' m m' : List Value} (h : LRel ρ S l l') (k : LRel ρ S m m') : LRel ρ S (l ++ m) (l' ++ m') := by
  induction l generalizing l' with
  | nil => rw [h.nil_inv]; exact k
  | cons v l ih => obtain ⟨v', t', rfl, hv, ht⟩ := h.cons_inv; exact LRel.cons hv (ih ht)
theorem LRel.take {ρ : Nat → BI} {S : Nat → Prop} {l l' : List Value} (h : LRel ρ S l l') (k : Nat) : LRel ρ S (l.take k) (l'.take k) := by
  refine ⟨by simp [h.1], fun i a b => ?_⟩
  simp only [List.getElem_take]
  exact h.2 i (by simp at a; omega) (by simp at b; omega)
theorem LRel.drop {ρ : Nat → BI} {S : Nat → Prop} {l l' : List Value} (h : LRel ρ S l l') (k : Nat) : LRel ρ S (l.drop k) (l'.drop k) := by
  refine ⟨by simp [h.1], fun i a b => ?_⟩
  simp only [List.getElem_drop]
  exact h.2 (k + i) (by simp at a; omega) (by simp at b; omega)
theorem LRel.set {ρ : Nat → BI} {S : Nat → Prop} {l l' : List Value} (h : LRel ρ S l l') (k : Nat) {v v' : Value} (hv : VRel ρ S v v') : LRel ρ S (l.set k v) (l'.set k v') := by
  refine ⟨by simp [h.1], fun i a b => ?_⟩
  simp only [List.getElem_set]
  split
  · exact hv
  · exact h.2 i (by simpa using a) (by simpa using b)
theorem VRel.agg_iff {ρ : Nat → BI} {S : Nat → Prop} {cs : Array Value} {v' : Value} (h : VRel ρ S (.agg cs) v') : ∃ cs', v' = .agg cs' ∧ LRel ρ S cs.toList cs'.toList := by
  cases h with
  | agg _ cs' hs h => exact ⟨cs', rfl, by simpa using hs, fun i a b => by simpa using h i (by simpa using a) (by simpa using b)⟩
theorem VRel.of_agg {ρ : Nat → BI} {S : Nat → Prop} {cs cs' : Array Value} (h : LRel ρ S cs.toList cs'.toList) : VRel ρ S (.agg cs) (.agg cs') :=
  .agg _ _ (by simpa using h.1) fun i a b => by have := h.2 i (by simpa using a) (by simpa using b); simpa only [Array.getElem_toList] using this
theorem VRel.tuple_iff {ρ : Nat → BI} {S : Nat → Prop} {cs : Array Value} {v' : Value} (h : VRel ρ S (.tuple cs) v') : ∃ cs', v' = .tuple cs' ∧ LRel ρ S cs.toList cs'.toList := by
  cases h with
  | tuple _ cs' hs h => exact ⟨cs', rfl, by simpa using hs, fun i a b => by simpa using h i (by simpa using a) (by simpa using b)⟩
theorem VRel.of_tuple {ρ : Nat → BI} {S : Nat → Prop} {cs cs' : Array Value} (h : LRel ρ S cs.toList cs'.toList) : VRel ρ S (.tuple cs) (.tuple cs') :=
  .tuple _ _ (by simpa using h.1) fun i a b => by have := h.2 i (by simpa using a) (by simpa using b); simpa only [Array.getElem_toList] using this
theorem VRel.of_func {ρ : Nat → BI} {S : Nat → Prop} (f : FuncId) {a a' b b' : Array Value} (h : LRel ρ S a.toList a'.toList) (k : LRel ρ S b.toList b'.toList) : VRel ρ S (.func (.func f) a b) (.func (.func f) a' b') :=
  .func f _ _ _ _ (by simpa using h.1) (by simpa using k.1) (fun i a b => by have := h.2 i (by simpa using a) (by simpa using b); simpa only [Array.getElem_toList] using this)
    (fun i a b => by have := k.2 i (by simpa using a) (by simpa using b); simpa only [Array.getElem_toList] using this)
theorem VRel.func_iff {ρ : Nat → BI} {S : Nat → Prop} {f : FuncId} {a b : Array Value} {v' : Value} (h : VRel ρ S (.func (.func f) a b) v') : ∃ a' b', v' = .func (.func f) a' b' ∧ LRel ρ S a.toList a'.toList ∧ LRel ρ S b.toList b'.toList := by
  cases h with
  | func _ _ a' _ b' h1 h2 h3 h4 => exact ⟨a', b', rfl, ⟨by simpa using h1, fun i a b => by simpa using h3 i (by simpa using a) (by simpa using b)⟩, ⟨by simpa using h2, fun i a b => by simpa using h4 i (by simpa using a) (by simpa using b)⟩⟩
theorem VRel.oneCell {ρ : Nat → BI} {S : Nat → Prop} {v v' : Value} (h : VRel ρ S v v') : v'.oneCell' = v.oneCell' := by cases h <;> rfl
theorem VRel.cells {ρ : Nat → BI} {S : Nat → Prop} {v v' : Value} (h : VRel ρ S v v') : LRel ρ S v.cells.toList v'.cells.toList := by
  cases h with
  | agg cs cs' hs h => exact (VRel.agg_iff (.agg cs cs' hs h)).elim fun _ ⟨e, r⟩ => by cases e; exact r
  | bool b => exact LRel.cons (.bool b) .nil
  | int k i => exact LRel.cons (.int k i) .nil
  | string s => exact LRel.cons (.string s) .nil
  | ptrNil => exact LRel.cons .ptrNil .nil
  | ptr k off h => exact LRel.cons (.ptr k off h) .nil
  | sliceNil => exact LRel.cons .sliceNil .nil
  | slice k off off' len cap cap' h hl hc ho hx => exact LRel.cons (.slice k off off' len cap cap' h hl hc ho hx) .nil
  | sliceEmpty a => exact LRel.cons (.sliceEmpty a) .nil
  | func f a b c d h1 h2 h3 h4 => exact LRel.cons (.func f a b c d h1 h2 h3 h4) .nil
  | nilFunc => exact LRel.cons .nilFunc .nil
  | mapNil => exact LRel.cons .mapNil .nil
  | chanNil => exact LRel.cons .chanNil .nil
  | iface t v v' h => exact LRel.cons (.iface t v v' h) .nil
  | nilIface => exact LRel.cons .nilIface .nil
  | tuple cs cs' hs h => exact LRel.cons (.tuple cs cs' hs h) .nil

/-- Behind the frozen cells none is frozen. -/
theorem thawed {lo hi m i : Nat} (h : lo = hi ∨ hi ≤ m) (hi' : m ≤ i) : (decide (lo ≤ i) && decide (i < hi)) = false := by
  rw [Bool.and_eq_false_iff]
  by_cases h1 : lo ≤ i
  · right; exact decide_eq_false (by omega)
  · left; exact decide_eq_false h1
/-- An abstract block, and the machine's block that it speaks of. -/
def ORel (P : Program) (ρ : Nat → BI) (S : Nat → Prop) (b : BI) : AObj → Obj → Prop
  | .cells cs e fz ro, o => ∃ c fr, o = .cells c e fr ∧ c.size = b.size ∧ b.esz = P.cellsOf e ∧ b.shift + cs.length ≤ c.size ∧ LRel ρ S cs ((c.toList.drop b.shift).take cs.length) ∧ (∀ v ∈ cs, v.oneCell' = true) ∧
      (ro = false → fr.1 = fr.2 ∨ fr.2 ≤ b.shift + fz)
  | .iter s pos, o => o = .stringIter s pos ∧ b.shift = 0

theorem ORel.mono {P : Program} {ρ ρ' : Nat → BI} {S S' : Nat → Prop} (hρ : ∀ k, S k → ρ' k = ρ k) (hn : ∀ k, S k → S' k) {b : BI} {a : AObj} {o : Obj} (h : ORel P ρ S b a o) : ORel P ρ' S' b a o := by
  cases a with
  | cells cs e fz ro => obtain ⟨c, fr, h1, h2, h3, h4, h5, h6⟩ := h; exact ⟨c, fr, h1, h2, h3, h4, h5.mono hρ hn, h6⟩
  | iter s pos => exact h

structure SimS (P : Program) (G : Nat) (ρ : Nat → BI) (S : Nat → Prop) (get : Nat → Option AObj) (w : World) : Prop where
  glob : ∀ g, g < G → (ρ g).blk = g ∧ (ρ g).shift = 0
  globs : ∀ g, g < G → S g
  live : ∀ k o, get k = some o → S k
  inj : ∀ k k' o o', get k = some o → get k' = some o' → (ρ k).blk = (ρ k').blk → k = k'
  objs : ∀ k a, get k = some a → ∃ o, w.heap[(ρ k).blk]? = some o ∧ ORel P ρ S (ρ k) a o

structure StepS (P : Program) (G : Nat) (ρ : Nat → BI) (S : Nat → Prop) (get : Nat → Option AObj) (w : World) (ρ' : Nat → BI) (S' : Nat → Prop) (get' : Nat → Option AObj) (w' : World) : Prop where
  sim : SimS P G ρ' S' get' w'
  rho : ∀ k, S k → ρ' k = ρ k
  know : ∀ k, S k → S' k
  os : w'.os = w.os
  tape : w'.tape = w.tape
  output : w'.output = w.output
  size : w.heap.size ≤ w'.heap.size
  frame : ∀ b, b < w.heap.size → (∀ k o, get k = some o → o.ro = false → (ρ k).blk ≠ b) → w'.heap[b]? = w.heap[b]?
  old : ∀ k o, get' k = some o → S k → ∃ o0, get k = some o0 ∧ (o.ro = false → o0.ro = false)
  new : ∀ k o, get' k = some o → ¬ S k → w.heap.size ≤ (ρ' k).blk ∨ ∃ k0 o0, get k0 = some o0 ∧ (ρ k0).blk = (ρ' k).blk ∧ (o.ro = false → o0.ro = false)

section
variable {P : Program} {G : Nat} {ρ ρ' ρ'' : Nat → BI} {S S' S'' : Nat → Prop} {M M' M'' : Nat → Option AObj} {w w' w'' : World}

theorem SimS.lt (h : SimS P G ρ S M w) {k : Nat} {o : AObj} (hk : M k = some o) : (ρ k).blk < w.heap.size := by
  obtain ⟨o', h1, _⟩ := h.objs k o hk
  exact (Array.getElem?_eq_some_iff.1 h1).1

theorem StepS.refl (h : SimS P G ρ S M w) : StepS P G ρ S M w ρ S M w where
  sim := h
  rho := fun _ _ => rfl
  know := fun _ h => h
  os := rfl
  tape := rfl
  output := rfl
  size := Nat.le_refl _
  frame := fun _ _ _ => rfl
  old := fun k o h _ => ⟨o, h, id⟩
  new := fun k o hk hn => absurd (h.live k o hk) hn

theorem StepS.trans (h : StepS P G ρ S M w ρ' S' M' w') (k : StepS P G ρ' S' M' w' ρ'' S'' M'' w'') : StepS P G ρ S M w ρ'' S'' M'' w'' where
  sim := k.sim
  rho := fun x hx => (k.rho x (h.know x hx)).trans (h.rho x hx)
  know := fun x hx => k.know x (h.know x hx)
  os := k.os.trans h.os
  tape := k.tape.trans h.tape
  output := k.output.trans h.output
  size := Nat.le_trans h.size k.size
  frame := fun b hb hn => by
    refine (k.frame b (Nat.lt_of_lt_of_le hb h.size) fun x o hx ho he => ?_).trans (h.frame b hb hn)
    by_cases hlt : S x
    · obtain ⟨o0, h0, hr⟩ := h.old x o hx hlt
      exact hn x o0 h0 (hr ho) ((congrArg BI.blk (h.rho x hlt)).symm.trans he)
    · rcases h.new x o hx hlt with h1 | ⟨k0, o0, h0, h1, hr⟩
      · omega
      · exact hn k0 o0 h0 (hr ho) (h1.trans he)
  old := fun x o hx hlt => by
    obtain ⟨o1, h1, r1⟩ := k.old x o hx (h.know x hlt)
    obtain ⟨o0, h0, r0⟩ := h.old x o1 h1 hlt
    exact ⟨o0, h0, fun e => r0 (r1 e)⟩
  new := fun x o hx hge => by
    by_cases hlt : S' x
    · obtain ⟨o1, h1, r1⟩ := k.old x o hx hlt
      rw [k.rho x hlt]
      rcases h.new x o1 h1 hge with h2 | ⟨k0, o0, h0, h2, hr⟩
      · exact .inl h2
      · exact .inr ⟨k0, o0, h0, h2, fun e => hr (r1 e)⟩
    · rcases k.new x o hx hlt with h2 | ⟨k1, o1, h1, h2, hr⟩
      · exact .inl (Nat.le_trans h.size h2)
      · by_cases hlt1 : S k1
        · obtain ⟨o0, h0, r0⟩ := h.old k1 o1 h1 hlt1
          exact .inr ⟨k1, o0, h0, (congrArg BI.blk (h.rho k1 hlt1)).symm.trans h2, fun e => r0 (hr e)⟩
        · rcases h.new k1 o1 h1 hlt1 with h3 | ⟨k0, o0, h0, h3, r0⟩
          · exact .inl (by omega)
          · exact .inr ⟨k0, o0, h0, h3.trans h2, fun e => r0 (hr e)⟩

theorem StepS.drew (h : StepS P G ρ S M w ρ' S' M' w') (n : Nat) : StepS P G ρ S M w ρ' S' M' { w' with drawn := n } :=
  { h with sim := { h.sim with } }
end

/-- What the machine's memory has to do with the abstract one. -/
def Sim (P : Program) (G : Nat) (ρ : Nat → BI) (M : Mem) (w : World) : Prop := SimS P G ρ (fun k => k < M.next) M.get w
def Step (P : Program) (G : Nat) (ρ : Nat → BI) (M : Mem) (w : World) (ρ' : Nat → BI) (M' : Mem) (w' : World) : Prop :=
  StepS P G ρ (fun k => k < M.next) M.get w ρ' (fun k => k < M'.next) M'.get w'
theorem Step.refl {P : Program} {G : Nat} {ρ : Nat → BI} {M : Mem} {w : World} (h : Sim P G ρ M w) : Step P G ρ M w ρ M w := StepS.refl h
theorem Step.trans {P : Program} {G : Nat} {ρ ρ' ρ'' : Nat → BI} {M M' M'' : Mem} {w w' w'' : World} (h : Step P G ρ M w ρ' M' w') (k : Step P G ρ' M' w' ρ'' M'' w'') : Step P G ρ M w ρ'' M'' w'' := StepS.trans h k
theorem Step.next {P : Program} {G : Nat} {ρ ρ' : Nat → BI} {M M' : Mem} {w w' : World} (h : Step P G ρ M w ρ' M' w') : M.next ≤ M'.next := by
  rcases Nat.lt_or_ge M'.next M.next with hlt | hge
  · exact absurd (StepS.know h M'.next hlt) (Nat.lt_irrefl _)
  · exact hge
end Go.AL
end
/- The library of this session's own, part 2: the elementary steps on the memory (a new block, a store, what is forgotten, what grows), and the machine's runs of loads and stores. -/
section
namespace Go.AL
open Go

def upd {α : Type} (f : Nat → α) (k : Nat) (v : α) : Nat → α := fun j => if j = k then v else f j
theorem upd_self {α : Type} (f : Nat → α) (k : Nat) (v : α) : upd f k v k = v := by simp [upd]
theorem upd_ne {α : Type} (f : Nat → α) {k j : Nat} (v : α) (h : j ≠ k) : upd f k v j = f j := by simp [upd, h]

section
variable {P : Program} {G : Nat} {ρ : Nat → BI} {S : Nat → Prop} {get : Nat → Option AObj} {w : World}

theorem StepS.alloc (h : SimS P G ρ S get w) (k : Nat) (hk : ¬ S k) (a : AObj) (o : Obj) (b : BI) (hb : b.blk = w.heap.size) (ho : ORel P ρ S b a o) :
    StepS P G ρ S get w (upd ρ k b) (fun j => S j ∨ j = k) (upd get k (some a)) (w.alloc o) := by
  have hρ : ∀ j, S j → upd ρ k b j = ρ j := fun j hj => upd_ne _ _ (fun e => hk (e ▸ hj))
  have hS : ∀ j, S j → (S j ∨ j = k) := fun j hj => .inl hj
  refine { sim := ⟨?_, ?_, ?_, ?_, ?_⟩, rho := hρ, know := hS, os := rfl, tape := rfl, output := rfl, size := by simp, frame := ?_, old := ?_, new := ?_ }
  · intro g hg
    rw [hρ g (h.globs g hg)]; exact h.glob g hg
  · intro g hg; exact .inl (h.globs g hg)
  · intro j o' hj
    by_cases e : j = k
    · exact .inr e
    · rw [upd_ne _ _ e] at hj; exact .inl (h.live j o' hj)
  · intro j j' o1 o2 h1 h2 he
    by_cases e : j = k <;> by_cases e' : j' = k
    · rw [e, e']
    · subst e
      rw [upd_ne _ _ e'] at h2
      rw [upd_self, upd_ne _ _ e'] at he
      have := h.lt h2; omega
    · subst e'
      rw [upd_ne _ _ e] at h1
      rw [upd_self, upd_ne _ _ e] at he
      have := h.lt h1; omega
    · rw [upd_ne _ _ e] at h1
      rw [upd_ne _ _ e'] at h2
      rw [upd_ne _ _ e, upd_ne _ _ e'] at he
      exact h.inj j j' o1 o2 h1 h2 he
  · intro j a' hj
    by_cases e : j = k
    · subst e
      rw [upd_self] at hj
      cases hj
      refine ⟨o, ?_, (upd_self ρ j b).symm ▸ ho.mono hρ hS⟩
      rw [upd_self, hb]
      exact heap_alloc_new w o
    · rw [upd_ne _ _ e] at hj
      obtain ⟨o', h1, h2⟩ := h.objs j a' hj
      rw [upd_ne _ _ e]
      refine ⟨o', ?_, h2.mono hρ hS⟩
      exact (heap_alloc_old w o _ (Array.getElem?_eq_some_iff.1 h1).1).trans h1
  · intro b hb _
    exact heap_alloc_old w o b hb
  · intro j o' hj hSj
    have hne : j ≠ k := fun e => by subst e; exact hk hSj
    rw [upd_ne _ _ hne] at hj
    exact ⟨o', hj, id⟩
  · intro j o' hj hSj
    by_cases e : j = k
    · subst e; rw [upd_self]; exact .inl (Nat.le_of_eq hb.symm)
    · rw [upd_ne _ _ e] at hj; exact absurd (h.live j o' hj) hSj

theorem StepS.sub (h : SimS P G ρ S get w) (get' : Nat → Option AObj) (hs : ∀ k o, get' k = some o → get k = some o) : StepS P G ρ S get w ρ S get' w where
  sim := ⟨h.glob, h.globs, fun k o hk => h.live k o (hs k o hk), fun k k' o o' h1 h2 => h.inj k k' o o' (hs _ _ h1) (hs _ _ h2), fun k a hk => h.objs k a (hs _ _ hk)⟩
  rho := fun _ _ => rfl
  know := fun _ h => h
  os := rfl
  tape := rfl
  output := rfl
  size := Nat.le_refl _
  frame := fun _ _ _ => rfl
  old := fun k o hk _ => ⟨o, hs k o hk, id⟩
  new := fun k o hk hn => absurd (h.live k o (hs _ _ hk)) hn

def put (w : World) (b : Nat) (o : Obj) : World := { w with heap := w.heap.setIfInBounds b o }
theorem put_self (w : World) (b : Nat) (o : Obj) (h : w.heap[b]? = some o) : put w b o = w := by
  obtain ⟨hlt, he⟩ := Array.getElem?_eq_some_iff.1 h
  unfold put
  have : w.heap.setIfInBounds b o = w.heap := by
    apply Array.ext
    · simp
    · intro i h1 h2
      rw [Array.getElem_setIfInBounds]
      split
      · rename_i e; subst e; exact he.symm
      · rfl
  rw [this]
theorem put_put (w : World) (b : Nat) (o o' : Obj) : put (put w b o) b o' = put w b o' := by simp [put]
theorem put_heap (w : World) (b : Nat) (o : Obj) (h : b < w.heap.size) : (put w b o).heap[b]? = some o := by simp [put, h]
theorem put_heap_ne (w : World) {b b' : Nat} (o : Obj) (h : b ≠ b') : (put w b o).heap[b']? = w.heap[b']? := by simp [put, h]

theorem StepS.modify (h : SimS P G ρ S get w) (k : Nat) (a : AObj) (hk : get k = some a) (hro : a.ro = false) (a' : AObj) (o' : Obj) (ho : ORel P ρ S (ρ k) a' o') :
    StepS P G ρ S get w ρ S (upd get k (some a')) (put w (ρ k).blk o') := by
  have hlt := h.lt hk
  refine { sim := ⟨h.glob, h.globs, ?_, ?_, ?_⟩, rho := fun _ _ => rfl, know := fun _ h => h, os := rfl, tape := rfl, output := rfl, size := by simp [put], frame := ?_, old := ?_, new := ?_ }
  · intro j o hj
    by_cases e : j = k
    · subst e; exact h.live j a hk
    · rw [upd_ne _ _ e] at hj; exact h.live j o hj
  · intro j j' o1 o2 h1 h2 he
    have l : ∀ j o, upd get k (some a') j = some o → ∃ o', get j = some o' := by
      intro j o hj
      by_cases e : j = k
      · exact ⟨a, e ▸ hk⟩
      · rw [upd_ne _ _ e] at hj; exact ⟨o, hj⟩
    obtain ⟨_, g1⟩ := l _ _ h1
    obtain ⟨_, g2⟩ := l _ _ h2
    exact h.inj j j' _ _ g1 g2 he
  · intro j a'' hj
    by_cases e : j = k
    · subst e
      rw [upd_self] at hj
      cases hj
      exact ⟨o', put_heap _ _ _ hlt, ho⟩
    · rw [upd_ne _ _ e] at hj
      obtain ⟨o, h1, h2⟩ := h.objs j a'' hj
      refine ⟨o, ?_, h2⟩
      rw [put_heap_ne _ _ (fun he => e (h.inj j k _ _ hj hk he.symm))]
      exact h1
  · intro b hb hn
    exact put_heap_ne _ _ (hn k a hk hro)
  · intro j o hj hSj
    by_cases e : j = k
    · exact ⟨a, e ▸ hk, fun _ => hro⟩
    · rw [upd_ne _ _ e] at hj; exact ⟨o, hj, id⟩
  · intro j o hj hSj
    by_cases e : j = k
    · exact absurd (e ▸ h.live k a hk) hSj
    · rw [upd_ne _ _ e] at hj; exact absurd (h.live j o hj) hSj

/-- A block goes on under another name (what an append in place does). -/
theorem StepS.move (h : SimS P G ρ S get w) (k k' : Nat) (a : AObj) (hk : get k = some a) (hro : a.ro = false) (hk' : ¬ S k') (a' : AObj) (o' : Obj) (b : BI) (hb : b.blk = (ρ k).blk) (ho : ORel P ρ S b a' o') :
    StepS P G ρ S get w (upd ρ k' b) (fun j => S j ∨ j = k') (upd (upd get k none) k' (some a')) (put w (ρ k).blk o') := by
  have hlt := h.lt hk
  have hρ : ∀ j, S j → upd ρ k' b j = ρ j := fun j hj => upd_ne _ _ (fun e => hk' (e ▸ hj))
  have hS : ∀ j, S j → (S j ∨ j = k') := fun j hj => .inl hj
  have l : ∀ j o, j ≠ k' → upd (upd get k none) k' (some a') j = some o → j ≠ k ∧ get j = some o := by
    intro j o e hj
    rw [upd_ne _ _ e] at hj
    by_cases e2 : j = k
    · subst e2; rw [upd_self] at hj; cases hj
    · rw [upd_ne _ _ e2] at hj; exact ⟨e2, hj⟩
  refine { sim := ⟨?_, ?_, ?_, ?_, ?_⟩, rho := hρ, know := hS, os := rfl, tape := rfl, output := rfl, size := by simp [put], frame := ?_, old := ?_, new := ?_ }
  · intro g hg
    rw [hρ g (h.globs g hg)]; exact h.glob g hg
  · intro g hg; exact .inl (h.globs g hg)
  · intro j o hj
    by_cases e : j = k'
    · exact .inr e
    · exact .inl (h.live j o (l j o e hj).2)
  · intro j j' o1 o2 h1 h2 he
    by_cases e : j = k' <;> by_cases e' : j' = k'
    · rw [e, e']
    · obtain ⟨n2, g2⟩ := l _ _ e' h2
      subst e
      rw [upd_self, hρ j' (h.live _ _ g2), hb] at he
      exact absurd (h.inj k j' _ _ hk g2 he) (fun e => n2 e.symm)
    · obtain ⟨n1, g1⟩ := l _ _ e h1
      subst e'
      rw [upd_self, hρ j (h.live _ _ g1), hb] at he
      exact absurd (h.inj j k _ _ g1 hk he) n1
    · obtain ⟨n1, g1⟩ := l _ _ e h1
      obtain ⟨n2, g2⟩ := l _ _ e' h2
      rw [hρ j (h.live _ _ g1), hρ j' (h.live _ _ g2)] at he
      exact h.inj j j' _ _ g1 g2 he
  · intro j a'' hj
    by_cases e : j = k'
    · subst e
      rw [upd_self] at hj
      cases hj
      rw [upd_self, hb]
      exact ⟨o', put_heap _ _ _ hlt, ho.mono hρ hS⟩
    · obtain ⟨n1, g1⟩ := l _ _ e hj
      obtain ⟨o, h1, h2⟩ := h.objs j a'' g1
      rw [hρ j (h.live _ _ g1)]
      refine ⟨o, ?_, h2.mono hρ hS⟩
      rw [put_heap_ne _ _ (fun he => n1 (h.inj j k _ _ g1 hk he.symm))]
      exact h1
  · intro b hb hn
    exact put_heap_ne _ _ (hn k a hk hro)
  · intro j o hj hSj
    obtain ⟨n1, g1⟩ := l j o (fun e => hk' (e ▸ hSj)) hj
    exact ⟨o, g1, id⟩
  · intro j o hj hSj
    by_cases e : j = k'
    · subst e; exact .inr ⟨k, a, hk, by rw [upd_self, hb], fun _ => hro⟩
    · exact absurd (h.live j o (l j o e hj).2) hSj

/-- What a slot of a known block holds. -/
theorem SimS.cells (h : SimS P G ρ S get w) {k : Nat} {cs : List Value} {e : TypeId} {fz : Nat} {ro : Bool} (hk : get k = some (.cells cs e fz ro)) (off n : Nat) (hn : off + n ≤ cs.length) :
    ∃ l : List Value, l.length = n ∧ LRel ρ S ((cs.drop off).take n) l ∧ ∀ j v, l[j]? = some v → w.cell? ⟨(ρ k).blk, (ρ k).shift + off + j, none⟩ = some v := by
  obtain ⟨o, h1, c, fr, rfl, _, _, hl, hr, _⟩ := h.objs k _ hk
  refine ⟨((((c.toList.drop (ρ k).shift).take cs.length)).drop off).take n, by simp; omega, (hr.drop off).take n, fun j v hj => ?_⟩
  have hlt := (List.getElem?_eq_some_iff.1 hj).1
  simp only [List.length_take, List.length_drop, Array.length_toList] at hlt
  rw [List.getElem?_take_of_lt (by omega), List.getElem?_drop, List.getElem?_take_of_lt (by omega), List.getElem?_drop] at hj
  rw [Nat.add_assoc]
  simpa [World.cell?, h1] using hj
theorem SimS.cell (h : SimS P G ρ S get w) {k : Nat} {cs : List Value} {e : TypeId} {fz : Nat} {ro : Bool} (hk : get k = some (.cells cs e fz ro)) {i : Nat} {v : Value} (hi : cs[i]? = some v) :
    ∃ v', w.cell? ⟨(ρ k).blk, (ρ k).shift + i, none⟩ = some v' ∧ VRel ρ S v v' := by
  have hlt := (List.getElem?_eq_some_iff.1 hi).1
  obtain ⟨l, h1, h2, h3⟩ := h.cells hk i 1 (by omega)
  have : ((cs.drop i).take 1)[0]? = some v := by rw [List.getElem?_take_of_lt (by omega), List.getElem?_drop]; exact hi
  obtain ⟨v', h4, h5⟩ := h2.get this
  exact ⟨v', by simpa using h3 0 v' h4, h5⟩
end

theorem add_lit (b off i : Nat) : (⟨b, off, none⟩ : Addr).add i = ⟨b, off + i, none⟩ := by unfold Addr.add; split <;> simp_all

section
variable {P : Program}
theorem run_loadCells_rel (w : World) (b off : Nat) (l : List Value) (h : ∀ j v, l[j]? = some v → w.cell? ⟨b, off + j, none⟩ = some v) (n : Nat) (hn : l.length = n) :
    (loadCells ⟨b, off, none⟩ n).run P w = .ok l.toArray w := by
  subst hn
  exact run_loadCells_list w _ l fun j v hj => by rw [add_lit]; exact h j v hj

theorem run_storeCells_rel (g : Nat) (e : TypeId) (fr : Nat × Nat) (off : Nat) : ∀ (vs : List Value) (i : Nat) (c : Array Value) (w : World), w.heap[g]? = some (.cells c e fr) →
    off + i + vs.length ≤ c.size → (∀ v ∈ vs, v.oneCell' = true) → (∀ j, off + i ≤ j → j < off + i + vs.length → (decide (fr.1 ≤ j) && decide (j < fr.2)) = false) →
    (storeCells ⟨g, off, none⟩ vs i).run P w = .ok () (put w g (.cells (c.toList.take (off + i) ++ vs ++ c.toList.drop (off + i + vs.length)).toArray e fr))
  | [], i, c, w, hg, _, _, _ => by
    simp only [storeCells, Sem.run_pure, List.append_nil, List.length_nil, Nat.add_zero, List.take_append_drop]
    rw [show c.toList.toArray = c from rfl, put_self _ _ _ hg]
  | v :: vs, i, c, w, hg, hl, h1, hf => by
    have hlt : off + i < c.size := by simp at hl; omega
    have hb := (Array.getElem?_eq_some_iff.1 hg).1
    have hc : w.cell? ⟨g, off + i, none⟩ = some c[off + i] := by simp [World.cell?, hg, hlt]
    have hfz : w.frozen? ⟨g, off + i, none⟩ = false := by
      have := hf (off + i) (Nat.le_refl _) (by simp)
      simpa [World.frozen?, hg] using this
    have hset : w.setCell ⟨g, off + i, none⟩ v = put w g (.cells (c.setIfInBounds (off + i) v) e fr) := by
      have hge := (Array.getElem?_eq_some_iff.1 hg).2
      unfold World.setCell put
      congr 1
      apply Array.ext
      · simp
      · intro j h1 h2
        simp only [Array.getElem_modify]
        split
        · rename_i he; subst he; rw [hge]; simp
        · rename_i he; exact (Array.getElem_setIfInBounds_ne (by simpa using h1) he).symm
    have ih := run_storeCells_rel g e fr off vs (i + 1) (c.setIfInBounds (off + i) v) (put w g (.cells (c.setIfInBounds (off + i) v) e fr)) (put_heap _ _ _ hb)
      (by simp at hl ⊢; omega) (fun u hu => h1 u (by simp [hu])) (fun j a b => hf j (by omega) (by simp; omega))
    simp only [storeCells, Sem.run_bind, add_lit, run_store P w _ v _ (h1 v (by simp)), hc, hfz, Bool.false_eq_true, if_false, Result.andThen_ok, hset, ih, put_put]
    congr 2
    congr 1
    apply Array.ext'
    simp only [Array.toList_setIfInBounds, List.take_set, List.drop_set]
    rw [show off + (i + 1) = off + i + 1 from by omega, List.take_succ_eq_append_getElem (by simpa using hlt)]
    rw [if_pos (by omega)]
    rw [List.set_append_right _ _ (by simp; omega)]
    simp only [List.length_take, Array.length_toList, Nat.min_eq_left (Nat.le_of_lt hlt), Nat.sub_self, List.set_cons_zero, List.append_assoc, List.cons_append, List.nil_append, List.length_cons]
    rw [show off + i + 1 + vs.length = off + i + (vs.length + 1) from by omega]
end
end Go.AL
end
/- The library of this session's own, part 3: the operations on the abstract memory, and that the machine's do the same. Loads, stores, addresses, slices. -/
section
namespace Go.AL
open Go

inductive Shape where
  | cell
  | agg (n : Nat)

def aggB : TypeDesc → Bool
  | .struct _ => true
  | .array _ _ => true
  | _ => false
/-- What the program's tables say of a type. -/
def shapeQ (P : Program) (t : TypeId) : Option Shape :=
  match P.underlying t, P.info? t with
  | some d, some i => if aggB d then some (.agg i.size) else if i.size = 1 then some .cell else none
  | _, _ => none
def sizeQ (P : Program) (t : TypeId) : Option Nat := (P.info? t).map (·.size)
def zeroQ (P : Program) (t : TypeId) : Option (List Value) := (P.info? t).bind fun i => i.zero.map fun z => z.cells.toList
def elemQ (P : Program) (t : TypeId) : Option (TypeId × Nat × Nat) :=
  match P.underlying t with
  | some (.slice e) => (P.info? e).map fun i => (e, i.size, i.bytes)
  | _ => none
def fieldQ (P : Program) (s : TypeId) (f : Nat) : Option (Nat × TypeId × Nat) :=
  match P.underlying s with
  | some (.struct fs) => (fs[f]?).bind fun x => (P.info? x.type).map fun i => (x.offset, x.type, i.size)
  | _ => none
def arrQ (P : Program) (t : TypeId) : Option (Nat × TypeId × Nat) :=
  match P.underlying t with
  | some (.array n e) => (P.info? e).map fun i => (n, e, i.size)
  | _ => none

def splice (cs : List Value) (off : Nat) (l : List Value) : List Value := cs.take off ++ l ++ cs.drop (off + l.length)
theorem splice_length {cs : List Value} {off : Nat} {l : List Value} (h : off + l.length ≤ cs.length) : (splice cs off l).length = cs.length := by simp [splice]; omega

section
variable {P : Program} {G : Nat} {ρ : Nat → BI} {S : Nat → Prop} {get : Nat → Option AObj} {w : World}

theorem run_typeInfo {t : TypeId} {i : TypeInfo} (h : P.info? t = some i) (w : World) : (typeInfo t).run P w = .ok i w := by simp [typeInfo, h]
theorem run_sizeOf {t : TypeId} {n : Nat} (h : sizeQ P t = some n) (w : World) : (sizeOf t).run P w = .ok n w := by
  unfold sizeQ at h
  cases hi : P.info? t with
  | none => simp [hi] at h
  | some i => simp [hi] at h; simp [sizeOf, run_typeInfo hi, h]
theorem run_isAgg {t : TypeId} {s : Shape} (h : shapeQ P t = some s) (w : World) : (isAgg t).run P w = .ok (match s with | .cell => false | .agg _ => true) w := by
  unfold shapeQ at h
  split at h <;> try cases h
  rename_i d i hu hi
  have : (isAgg t).run P w = .ok (aggB d) w := by
    simp only [isAgg, Sem.run_bind, run_underlying hu, Result.andThen_ok]
    cases d <;> rfl
  rw [this]
  split at h
  · rename_i hd; cases h; rw [hd]
  · rename_i hd
    split at h <;> cases h
    rw [Bool.not_eq_true] at hd
    rw [hd]
theorem shape_size {t : TypeId} {s : Shape} (h : shapeQ P t = some s) : sizeQ P t = some (match s with | .cell => 1 | .agg n => n) := by
  unfold shapeQ at h
  split at h <;> try cases h
  rename_i d i hu hi
  split at h
  · cases h; simp [sizeQ, hi]
  · split at h <;> cases h
    rename_i h1
    simp [sizeQ, hi, h1]

def aLoad (P : Program) (t : TypeId) (get : Nat → Option AObj) : Value → Option Value
  | .pointer (some ⟨k, off, none⟩) =>
    match get k with
    | some (.cells cs _ _ _) =>
      match shapeQ P t with
      | some (.agg n) => if off + n ≤ cs.length then some (.agg ((cs.drop off).take n).toArray) else none
      | some .cell => cs[off]?
      | none => none
    | _ => none
  | _ => none

theorem aLoad_sound (h : SimS P G ρ S get w) {t : TypeId} {v v' r : Value} (hv : VRel ρ S v v') (hr : aLoad P t get v = some r) :
    ∃ r', (Instr.loadAt t v').run P w = .ok r' w ∧ VRel ρ S r r' := by
  cases hv <;> simp only [aLoad] at hr <;> try cases hr
  rename_i k off hS
  split at hr <;> try cases hr
  rename_i cs e fz ro hk
  split at hr <;> try cases hr
  · rename_i n hs
    split at hr <;> try cases hr
    rename_i hn
    obtain ⟨l, hl, hrel, hc⟩ := h.cells hk off n hn
    refine ⟨.agg l.toArray, ?_, .of_agg (by simpa using hrel)⟩
    simp only [Instr.loadAt, Instr.sureAddr, Sem.run_bind, Sem.run_pure, Result.andThen_ok, loadVar, run_isAgg hs, if_true, run_sizeOf (shape_size hs),
      run_loadCells_rel w _ _ l hc n hl]
  · rename_i hs
    obtain ⟨v', hc, hrel⟩ := h.cell hk hr
    refine ⟨v', ?_, hrel⟩
    simp only [Instr.loadAt, Instr.sureAddr, Sem.run_bind, Sem.run_pure, Result.andThen_ok, loadVar, run_isAgg hs, Bool.false_eq_true, if_false, run_load, hc]

/-- The new contents of a block, if it may be written there. -/
def aWrite (get : Nat → Option AObj) (k off : Nat) (l : List Value) : Option AObj :=
  match get k with
  | some (.cells cs e fz false) => if fz ≤ off ∧ off + l.length ≤ cs.length ∧ l.all (·.oneCell') = true then some (.cells (splice cs off l) e fz false) else none
  | _ => none

theorem aWrite_sound (h : SimS P G ρ S get w) {k off : Nat} {l l' : List Value} (hl : LRel ρ S l l') {a : AObj} (ha : aWrite get k off l = some a) :
    ∃ w', (storeCells ⟨(ρ k).blk, (ρ k).shift + off, none⟩ l').run P w = .ok () w' ∧ StepS P G ρ S get w ρ S (upd get k (some a)) w' := by
  unfold aWrite at ha
  split at ha <;> try cases ha
  rename_i cs e fz hk
  split at ha <;> try cases ha
  rename_i hc
  obtain ⟨hfz, hlen, hone⟩ := hc
  obtain ⟨o, h1, c, fr, rfl, hsz, hes, hcl, hr, hcell, hfr⟩ := h.objs k _ hk
  have hll := hl.1
  have hone' : ∀ v ∈ l', v.oneCell' = true := by
    intro v hv
    obtain ⟨i, hi, rfl⟩ := List.getElem_of_mem hv
    have hi' : i < l.length := by omega
    rw [(hl.2 i hi' hi).oneCell]
    simp only [List.all_eq_true] at hone
    exact hone _ (List.getElem_mem hi')
  have hrun := run_storeCells_rel (P := P) (ρ k).blk e fr ((ρ k).shift + off) l' 0 c w h1 (by omega) hone' (fun j a b => thawed (hfr rfl) (by omega))
  refine ⟨_, hrun, StepS.modify h k _ hk rfl _ _ ⟨_, fr, rfl, ?_, hes, ?_, ?_, ?_, fun _ => hfr rfl⟩⟩
  · simp; omega
  · rw [splice_length hlen]; simp; omega
  · rw [splice_length hlen]
    have e : ((c.toList.take ((ρ k).shift + off + 0) ++ l' ++ c.toList.drop ((ρ k).shift + off + 0 + l'.length)).drop (ρ k).shift).take cs.length
        = splice ((c.toList.drop (ρ k).shift).take cs.length) off l' := by
      apply List.ext_getElem?
      intro j
      simp only [splice, List.getElem?_take, List.getElem?_drop, List.getElem?_append, List.length_append, List.length_take, List.length_drop, Array.length_toList, Nat.add_zero]
      repeat' split
      all_goals first
        | rfl
        | (exfalso; omega)
        | (congr 1; omega)
        | (symm; rw [List.getElem?_eq_none]; simp; omega)
        | skip
    have e2 : (((c.toList.take ((ρ k).shift + off + 0) ++ l' ++ c.toList.drop ((ρ k).shift + off + 0 + l'.length)).toArray).toList.drop (ρ k).shift).take cs.length = splice ((c.toList.drop (ρ k).shift).take cs.length) off l' := e
    rw [e2]
    unfold splice
    rw [hll]
    exact ((hr.take off).append hl).append (hr.drop _)
  · intro v hv
    simp only [splice, List.mem_append] at hv
    rcases hv with (hv | hv) | hv
    · exact hcell v (List.mem_of_mem_take hv)
    · simp only [List.all_eq_true] at hone; exact hone v hv
    · exact hcell v (List.mem_of_mem_drop hv)
end
end Go.AL
end
/- The library of this session's own, part 4: more operations: stores, new variables, structs and slices that are built, addresses, indexes, cuts. -/
section
namespace Go.AL
open Go

/-- Values of one cell in which no address stands. -/
def flat1 : Value → Bool
  | .bool _ | .int _ _ | .string _ | .pointer none | .slice none 0 0 | .nilFunc | .nilIface | .map none | .chan none => true
  | _ => false
theorem flat1_rel {ρ : Nat → BI} {S : Nat → Prop} {v : Value} (h : flat1 v = true) : VRel ρ S v v := by
  unfold flat1 at h
  split at h <;> first | constructor | cases h
theorem flat1_one {v : Value} (h : flat1 v = true) : v.oneCell' = true := by
  unfold flat1 at h
  split at h <;> first | rfl | cases h
theorem flatL_rel {ρ : Nat → BI} {S : Nat → Prop} {l : List Value} (h : l.all flat1 = true) : LRel ρ S l l :=
  ⟨rfl, fun i a _ => flat1_rel (by simp only [List.all_eq_true] at h; exact h _ (List.getElem_mem a))⟩
def flat2 : Value → Bool
  | .agg cs => cs.toList.all flat1
  | v => flat1 v
theorem flat2_rel {ρ : Nat → BI} {S : Nat → Prop} {v : Value} (h : flat2 v = true) : VRel ρ S v v := by
  unfold flat2 at h
  split at h
  · exact .of_agg (flatL_rel h)
  · exact flat1_rel h
def flatV : Value → Bool
  | .tuple cs => cs.toList.all flat2
  | v => flat2 v
theorem flatV_rel {ρ : Nat → BI} {S : Nat → Prop} {v : Value} (h : flatV v = true) : VRel ρ S v v := by
  unfold flatV at h
  split at h
  · refine .of_tuple ⟨rfl, fun i a _ => flat2_rel ?_⟩
    simp only [List.all_eq_true] at h
    exact h _ (List.getElem_mem a)
  · exact flat2_rel h

section
variable {P : Program} {G : Nat} {ρ : Nat → BI} {S : Nat → Prop} {get : Nat → Option AObj} {w : World}

theorem LRel.one {l l' : List Value} (h : LRel ρ S l l') (h1 : l.all (·.oneCell') = true) : ∀ v ∈ l', v.oneCell' = true := by
  intro v hv
  obtain ⟨i, hi, rfl⟩ := List.getElem_of_mem hv
  have hi' : i < l.length := by have := h.1; omega
  rw [(h.2 i hi' hi).oneCell]
  simp only [List.all_eq_true] at h1
  exact h1 _ (List.getElem_mem hi')

/-- A new block of a row's cells: the relation holds of it. -/
theorem ORel.row {cs cs' : List Value} (h : LRel ρ S cs cs') (h1 : cs.all (·.oneCell') = true) (e : TypeId) (b : Nat) :
    ORel P ρ S ⟨b, 0, cs.length, P.cellsOf e⟩ (.cells cs e 0 false) (.cells cs'.toArray e) := by
  refine ⟨cs'.toArray, (0, 0), rfl, by simp [h.1], rfl, by simp [h.1], ?_, by simpa using h1, fun _ => .inl rfl⟩
  simpa [h.1] using h

def aStore (P : Program) (t : TypeId) (get : Nat → Option AObj) (v x : Value) : Option (Nat × AObj) :=
  match v with
  | .pointer (some ⟨k, off, none⟩) => if sizeQ P t = some x.cells.size then (aWrite get k off x.cells.toList).map fun a => (k, a) else none
  | _ => none
theorem aStore_sound (h : SimS P G ρ S get w) {t : TypeId} {v v' x x' : Value} (hv : VRel ρ S v v') (hx : VRel ρ S x x') {k : Nat} {a : AObj} (hr : aStore P t get v x = some (k, a)) :
    ∃ w', (Instr.storeAt t v' x').run P w = .ok () w' ∧ StepS P G ρ S get w ρ S (upd get k (some a)) w' := by
  cases hv <;> simp only [aStore] at hr <;> try cases hr
  rename_i k0 off hS
  split at hr <;> try cases hr
  rename_i hsz
  simp only [Option.map_eq_some_iff, Prod.mk.injEq] at hr
  obtain ⟨a0, ha, rfl, rfl⟩ := hr
  have hc := hx.cells
  obtain ⟨w', h1, h2⟩ := aWrite_sound h hc ha
  refine ⟨w', ?_, h2⟩
  have hs : x'.cells.size = x.cells.size := by have := hc.1; simpa using this.symm
  simp only [Instr.storeAt, Instr.sureAddr, Sem.run_bind, Sem.run_pure, Result.andThen_ok, storeVar, run_sizeOf hsz, hs, ne_eq, not_true_eq_false, if_false]
  exact h1

/-- What a new block of one variable holds; `kk` is its name. -/
def aNew (e : TypeId) (l : List Value) : Option AObj := if l.all (·.oneCell') = true then some (.cells l e 0 false) else none
theorem aNew_sound (h : SimS P G ρ S get w) {kk : Nat} (hk : ¬ S kk) {e : TypeId} {l l' : List Value} (hl : LRel ρ S l l') {a : AObj} (ha : aNew e l = some a) :
    ∃ b : BI, b.blk = w.heap.size ∧ b.shift = 0 ∧ b.size = l.length ∧ b.esz = P.cellsOf e ∧ StepS P G ρ S get w (upd ρ kk b) (fun j => S j ∨ j = kk) (upd get kk (some a)) (w.alloc (.cells l'.toArray e)) := by
  unfold aNew at ha
  split at ha <;> cases ha
  rename_i h1
  exact ⟨⟨w.heap.size, 0, l.length, P.cellsOf e⟩, rfl, rfl, rfl, rfl, StepS.alloc h kk hk _ _ _ rfl (ORel.row hl h1 e _)⟩

def zeroF (P : Program) (t : TypeId) : Option (List Value) := (zeroQ P t).bind fun l => if l.all flat1 = true then some l else none
theorem run_zeroValue {t : TypeId} {l : List Value} (h : zeroQ P t = some l) (w : World) : ∃ z, (zeroValue t).run P w = .ok z w ∧ z.cells.toList = l := by
  unfold zeroQ at h
  cases hi : P.info? t with
  | none => simp [hi] at h
  | some i =>
    cases hz : i.zero with
    | none => simp [hi, hz] at h
    | some z => exact ⟨z, by simp [zeroValue, run_typeInfo hi, hz], by simpa [hi, hz] using h⟩
theorem zeroF_zeroQ {t : TypeId} {l : List Value} (h : zeroF P t = some l) : zeroQ P t = some l ∧ l.all flat1 = true := by
  unfold zeroF at h
  cases hq : zeroQ P t with
  | none => simp [hq] at h
  | some l' =>
    simp only [hq, Option.bind_some] at h
    split at h <;> cases h
    exact ⟨rfl, by assumption⟩

theorem aAlloc_sound (h : SimS P G ρ S get w) {kk : Nat} (hk : ¬ S kk) {t : TypeId} {l : List Value} (hz : zeroF P t = some l) {a : AObj} (ha : aNew t l = some a) :
    ∃ b : BI, b.blk = w.heap.size ∧ b.shift = 0 ∧ ∃ w', (Instr.alloc t true (.tuple #[])).run P w = .ok (.pointer (some ⟨b.blk, b.shift + 0, none⟩)) w' ∧
      StepS P G ρ S get w (upd ρ kk b) (fun j => S j ∨ j = kk) (upd get kk (some a)) w' := by
  obtain ⟨hz1, hz2⟩ := zeroF_zeroQ hz
  obtain ⟨z, hrun, hzl⟩ := run_zeroValue hz1 w
  obtain ⟨b, hb, hs, _, _, hst⟩ := aNew_sound h hk (flatL_rel hz2) ha
  refine ⟨b, hb, hs, _, ?_, hst⟩
  simp only [Instr.alloc, Sem.run_bind, hrun, Result.andThen_ok, newVar, newRow, run_newObj, Sem.run_pure, hb, hs]
  subst hzl
  rfl
theorem aBox_sound (h : SimS P G ρ S get w) {kk : Nat} (hk : ¬ S kk) {t : TypeId} {x x' : Value} (hx : VRel ρ S x x') {a : AObj} (ha : aNew t x.cells.toList = some a) :
    ∃ b : BI, b.blk = w.heap.size ∧ b.shift = 0 ∧ ∃ w', (Instr.box t x').run P w = .ok (.pointer (some ⟨b.blk, b.shift + 0, none⟩)) w' ∧
      StepS P G ρ S get w (upd ρ kk b) (fun j => S j ∨ j = kk) (upd get kk (some a)) w' := by
  obtain ⟨b, hb, hs, _, _, hst⟩ := aNew_sound h hk hx.cells ha
  refine ⟨b, hb, hs, _, ?_, hst⟩
  simp only [Instr.box, Sem.run_bind, newVar, newRow, run_newObj, Result.andThen_ok, Sem.run_pure, hb, hs]
  rfl

-- structs and arrays that are built
def fillL : List (Nat × Nat) → List Value → List (Nat × Value) → Option (List Value)
  | _, cells, [] => some cells
  | places, cells, (i, v) :: rest =>
    match places[i]? with
    | some (off, size) => if v.cells.size = size ∧ off + size ≤ cells.length then fillL places (splice cells off v.cells.toList) rest else none
    | none => none
theorem foldl_set (l : List Value) : ∀ (off j : Nat) (cs : Array Value), off + j + l.length ≤ cs.size →
    (l.zipIdx j).foldl (fun cs (p : Value × Nat) => cs.setIfInBounds (off + p.2) p.1) cs = (splice cs.toList (off + j) l).toArray := by
  induction l with
  | nil => intro off j cs _; simp [splice]
  | cons v l ih =>
    intro off j cs h
    simp only [List.length_cons] at h
    simp only [List.zipIdx_cons, List.foldl_cons]
    rw [ih off (j + 1) _ (by simp; omega)]
    congr 1
    simp only [splice, Array.toList_setIfInBounds, List.length_cons]
    rw [show off + (j + 1) = off + j + 1 from by omega, List.take_set, List.drop_set, if_pos (by omega), List.take_succ_eq_append_getElem (by simp; omega)]
    rw [List.set_append_right _ _ (by simp; omega)]
    simp only [List.length_take, Array.length_toList, Nat.min_eq_left (show off + j ≤ cs.size by omega), Nat.sub_self, List.set_cons_zero, List.append_assoc, List.cons_append, List.nil_append]
    rw [show off + j + 1 + l.length = off + j + (l.length + 1) from by omega]
theorem fillL_sound (places : List (Nat × Nat)) : ∀ {parts parts' : List (Nat × Value)} {cells cells' r : List Value}, LRel ρ S cells cells' →
    (parts.map (·.1) = parts'.map (·.1)) → LRel ρ S (parts.map (·.2)) (parts'.map (·.2)) → fillL places cells parts = some r →
    ∃ r', Instr.fill (places[·]?) cells'.toArray parts' = some r'.toArray ∧ LRel ρ S r r' := by
  intro parts
  induction parts with
  | nil =>
    intro parts' cells cells' r hc h1 _ hr
    cases parts' with
    | nil => simp only [fillL] at hr; cases hr; exact ⟨cells', rfl, hc⟩
    | cons => simp at h1
  | cons p parts ih =>
    intro parts' cells cells' r hc h1 h2 hr
    cases parts' with
    | nil => simp at h1
    | cons p' parts' =>
      obtain ⟨i, v⟩ := p
      obtain ⟨i', v'⟩ := p'
      simp only [List.map_cons, List.cons.injEq] at h1
      obtain ⟨rfl, h1⟩ := h1
      simp only [List.map_cons] at h2
      have hv := h2.head.cells
      simp only [fillL] at hr
      split at hr <;> try cases hr
      rename_i off size hp
      split at hr <;> try cases hr
      rename_i hsz
      have e1 : v'.cells.size = v.cells.size := by have := hv.1; simpa using this.symm
      have hl := hc.1
      obtain ⟨r', hr', hrel⟩ := ih (((hc.take off).append hv).append (hc.drop (off + v.cells.toList.length))) h1 h2.tail hr
      refine ⟨r', ?_, hrel⟩
      simp only [Instr.fill, hp]
      rw [if_neg (by simp only [Bool.or_eq_true, decide_eq_true_eq, not_or, e1, ne_eq, hsz.1, not_true_eq_false, not_false_eq_true, true_and]; simp; omega)]
      have := foldl_set v'.cells.toList off 0 cells'.toArray (by simp; omega)
      simp only [Nat.add_zero] at this
      have e2 : v'.cells.zipIdx.foldl (fun cs (p : Value × Nat) => cs.setIfInBounds (off + p.2) p.1) cells'.toArray = (splice cells' off v'.cells.toList).toArray := by
        rw [← this, ← Array.foldl_toList, Array.toList_zipIdx]
      have e3 : (v'.cells.zipIdx.foldl (fun cs x => match x with | (c, j) => cs.setIfInBounds (off + j) c) cells'.toArray) = (splice cells' off v'.cells.toList).toArray := e2
      rw [e3]
      simp only [splice] at hr' ⊢
      rw [← hv.1]
      exact hr'
end
end Go.AL
end
/- The library of this session's own, part 5: built structs and slices, fields, indexes, cuts. -/
section
namespace Go.AL
open Go

section
variable {P : Program} {G : Nat} {ρ : Nat → BI} {S : Nat → Prop} {get : Nat → Option AObj} {w : World}

/-- Where a struct's fields lie, and how many cells each has. -/
def placesQ (P : Program) (t : TypeId) : Option (List (Nat × Nat)) :=
  match P.underlying t with
  | some (.struct fs) => fs.toList.mapM fun f => (P.info? f.type).map fun i => (f.offset, i.size)
  | _ => none
theorem run_places (fs : List Field) (l : List (Nat × Nat)) (h : (fs.mapM fun f => (P.info? f.type).map fun i => (f.offset, i.size)) = some l) (w : World) :
    (fs.mapM fun f => (do pure (f.offset, ← sizeOf f.type) : Sem (Nat × Nat))).run P w = .ok l w := by
  induction fs generalizing l with
  | nil => simp at h; subst h; rfl
  | cons f fs ih =>
    simp only [List.mapM_cons, Option.bind_eq_bind, Option.bind_eq_some_iff, Option.map_eq_some_iff, Option.pure_def, Option.some.injEq] at h
    obtain ⟨x, ⟨i, hi, rfl⟩, l', hl', rfl⟩ := h
    have hs : (sizeOf f.type).run P w = .ok i.size w := run_sizeOf (by simp [sizeQ, hi]) w
    simp only [List.mapM_cons, Sem.run_bind, hs, Result.andThen_ok, Sem.run_pure, ih _ hl']

def aBuild (P : Program) (t : TypeId) (parts : List (Nat × Value)) : Option Value :=
  match placesQ P t, zeroF P t with
  | some places, some zero => (fillL places zero parts).map fun l => .agg l.toArray
  | _, _ => none
theorem aBuild_sound {t : TypeId} {parts parts' : List (Nat × Value)} (h1 : parts.map (·.1) = parts'.map (·.1)) (h2 : LRel ρ S (parts.map (·.2)) (parts'.map (·.2))) {r : Value}
    (hr : aBuild P t parts = some r) (w : World) : ∃ r', (Instr.build t parts'.toArray).run P w = .ok r' w ∧ VRel ρ S r r' := by
  unfold aBuild at hr
  split at hr <;> try cases hr
  rename_i places zero hp hz
  simp only [Option.map_eq_some_iff] at hr
  obtain ⟨l, hl, rfl⟩ := hr
  obtain ⟨hz1, hz2⟩ := zeroF_zeroQ hz
  obtain ⟨z, hrun, hzl⟩ := run_zeroValue hz1 w
  obtain ⟨l', hl', hrel⟩ := fillL_sound places (flatL_rel hz2) h1 h2 hl
  refine ⟨.agg l'.toArray, ?_, .of_agg (by simpa using hrel)⟩
  unfold placesQ at hp
  split at hp <;> try cases hp
  rename_i fs hu
  have hm : (fs.mapM fun f => (do pure (f.offset, ← sizeOf f.type) : Sem (Nat × Nat))).run P w = .ok places.toArray w := by
    rw [Array.mapM_eq_mapM_toList, Sem.run_map, run_places fs.toList places hp w]
    rfl
  have hz' : z.cells = zero.toArray := by rw [← hzl]
  simp only [Instr.build, Sem.run_bind, hrun, run_underlying hu, Result.andThen_ok, hm, hz']
  have hpl : (fun (x : Nat) => places.toArray[x]?) = fun (x : Nat) => places[x]? := by funext x; simp
  rw [hpl, hl']
  rfl

/-- A slice's parts, laid into so many elements. -/
def zerosL (zero : List Value) : Nat → List Value
  | 0 => []
  | n + 1 => zero ++ zerosL zero n
theorem zerosL_length (zero : List Value) (n : Nat) : (zerosL zero n).length = n * zero.length := by
  induction n with
  | zero => simp [zerosL]
  | succ n ih => simp [zerosL, ih, Nat.add_mul, Nat.add_comm]
theorem zerosL_get (zero : List Value) : ∀ (n i : Nat), i < n * zero.length → (zerosL zero n)[i]? = zero[i % zero.length]? := by
  intro n
  induction n with
  | zero => intro i h; simp at h
  | succ n ih =>
    intro i h
    simp only [zerosL]
    rcases Nat.lt_or_ge i zero.length with hlt | hge
    · rw [List.getElem?_append_left hlt, Nat.mod_eq_of_lt hlt]
    · rw [List.getElem?_append_right hge, ih _ (by rw [Nat.add_mul] at h; omega), Nat.mod_eq_sub_mod hge]
theorem zerosL_flat {zero : List Value} (h : zero.all flat1 = true) (n : Nat) : (zerosL zero n).all flat1 = true := by
  induction n with
  | zero => rfl
  | succ n ih => simp only [zerosL, List.all_append, h, ih, Bool.and_self]
theorem zeros_range (z : Array Value) (m : Nat) (hz : 0 < z.size) : ((Array.range (m * z.size)).map (z[· % z.size]!)) = (zerosL z.toList m).toArray := by
  apply Array.ext
  · simp [zerosL_length]
  · intro i h1 h2
    simp only [Array.size_map, Array.size_range] at h1
    have hlt : i % z.size < z.size := Nat.mod_lt _ hz
    have := zerosL_get z.toList m i (by simpa using h1)
    simp only [List.getElem_toArray, Array.getElem_map, Array.getElem_range]
    have hi : i < (zerosL z.toList m).length := by simpa using h2
    rw [List.getElem?_eq_getElem hi] at this
    have h3 : z[i % z.size]? = some (zerosL z.toList m)[i] := by simpa using this.symm
    rw [getElem!_pos z _ hlt]
    rw [Array.getElem?_eq_getElem hlt] at h3
    injection h3

def aBuildSlice (P : Program) (t : TypeId) (len : Nat) (parts : List (Nat × Value)) : Option (TypeId × List Value) :=
  match elemQ P t with
  | some (e, size, _) =>
    match zeroF P e with
    | some zero => if zero.length = size ∧ 0 < size ∧ len * size ≤ 16777216 then (fillL ((List.range len).map fun i => (i * size, size)) (zerosL zero len) parts).map fun l => (e, l) else none
    | none => none
  | none => none
theorem elemQ_spec {t e : TypeId} {size bytes : Nat} (h : elemQ P t = some (e, size, bytes)) : ∃ i, P.underlying t = some (.slice e) ∧ P.info? e = some i ∧ i.size = size ∧ i.bytes = bytes := by
  unfold elemQ at h
  split at h <;> try cases h
  rename_i e' hu
  simp only [Option.map_eq_some_iff, Prod.mk.injEq] at h
  obtain ⟨i, hi, rfl, rfl, rfl⟩ := h
  exact ⟨i, hu, hi, rfl, rfl⟩
theorem fill_places {place place' : Nat → Option (Nat × Nat)} : ∀ (parts : List (Nat × Value)) (cells : Array Value), (∀ p ∈ parts, place p.1 = place' p.1) → Instr.fill place cells parts = Instr.fill place' cells parts := by
  intro parts
  induction parts with
  | nil => intro cells _; rfl
  | cons p parts ih =>
    intro cells h
    obtain ⟨i, v⟩ := p
    have := h (i, v) (by simp)
    simp only at this
    simp only [Instr.fill, this]
    split
    · rfl
    · split
      · rfl
      · exact ih _ fun q hq => h q (by simp [hq])
theorem fillL_places {places : List (Nat × Nat)} : ∀ (parts : List (Nat × Value)) (cells r : List Value), fillL places cells parts = some r → ∀ p ∈ parts, (places[p.1]?).isSome = true := by
  intro parts
  induction parts with
  | nil => intro _ _ _ p hp; cases hp
  | cons p parts ih =>
    intro cells r h q hq
    obtain ⟨i, v⟩ := p
    simp only [fillL] at h
    split at h <;> try cases h
    rename_i off size hp
    split at h <;> try cases h
    rcases List.mem_cons.1 hq with rfl | hq
    · simp [hp]
    · exact ih _ _ h q hq
theorem fillL_length {places : List (Nat × Nat)} : ∀ (parts : List (Nat × Value)) (cells r : List Value), fillL places cells parts = some r → r.length = cells.length := by
  intro parts
  induction parts with
  | nil => intro cells r h; simp only [fillL] at h; cases h; rfl
  | cons p parts ih =>
    intro cells r h
    obtain ⟨i, v⟩ := p
    simp only [fillL] at h
    split at h <;> try cases h
    split at h <;> try cases h
    rename_i hs
    rw [ih _ _ h, splice_length (by simp; omega)]
theorem fillL_one {places : List (Nat × Nat)} : ∀ (parts : List (Nat × Value)) (cells r : List Value), fillL places cells parts = some r → cells.all (·.oneCell') = true →
    (∀ p ∈ parts, p.2.cells.toList.all (·.oneCell') = true) → r.all (·.oneCell') = true := by
  intro parts
  induction parts with
  | nil => intro cells r h hc _; simp only [fillL] at h; cases h; exact hc
  | cons p parts ih =>
    intro cells r h hc hp
    obtain ⟨i, v⟩ := p
    simp only [fillL] at h
    split at h <;> try cases h
    split at h <;> try cases h
    refine ih _ _ h ?_ fun q hq => hp q (by simp [hq])
    have := hp (i, v) (by simp)
    simp only [List.all_eq_true] at hc this ⊢
    intro x hx
    simp only [splice, List.mem_append] at hx
    rcases hx with (hx | hx) | hx
    · exact hc x (List.mem_of_mem_take hx)
    · exact this x hx
    · exact hc x (List.mem_of_mem_drop hx)

theorem aBuildSlice_sound (h : SimS P G ρ S get w) {kk : Nat} (hk : ¬ S kk) {t : TypeId} {len : Nat} {parts parts' : List (Nat × Value)}
    (h1 : parts.map (·.1) = parts'.map (·.1)) (h2 : LRel ρ S (parts.map (·.2)) (parts'.map (·.2))) {e : TypeId} {l : List Value} (hr : aBuildSlice P t len parts = some (e, l))
    {a : AObj} (ha : aNew e l = some a) :
    ∃ b : BI, b.blk = w.heap.size ∧ b.shift = 0 ∧ ∃ w' v', (Instr.buildSlice t len parts'.toArray).run P w = .ok v' w' ∧
      StepS P G ρ S get w (upd ρ kk b) (fun j => S j ∨ j = kk) (upd get kk (some a)) w' ∧ VRel (upd ρ kk b) (fun j => S j ∨ j = kk) (.slice (some ⟨kk, 0, none⟩) len len) v' := by
  unfold aBuildSlice at hr
  split at hr <;> try cases hr
  rename_i e0 size bytes hel
  split at hr <;> try cases hr
  rename_i zero hz
  split at hr <;> try cases hr
  rename_i hsz
  obtain ⟨hzl, hpos, hmost⟩ := hsz
  simp only [Option.map_eq_some_iff, Prod.mk.injEq] at hr
  obtain ⟨l0, hl, rfl, rfl⟩ := hr
  obtain ⟨i, hu, hi, his, hib⟩ := elemQ_spec hel
  obtain ⟨hz1, hz2⟩ := zeroF_zeroQ hz
  obtain ⟨z, hrun, hzz⟩ := run_zeroValue hz1 w
  obtain ⟨l', hl', hrel⟩ := fillL_sound _ (flatL_rel (zerosL_flat hz2 len)) h1 h2 hl
  obtain ⟨b, hb, hs, hbs, hbe, hst⟩ := aNew_sound (P := P) h hk hrel ha
  refine ⟨b, hb, hs, _, .slice (some ⟨b.blk, 0, none⟩) len len, ?_, hst, ?_⟩
  · have hsz : sizeQ P e0 = some size := by simp [sizeQ, hi, his]
    have hzs : z.cells.size = size := by rw [← Array.length_toList, hzz, hzl]
    have hfill : Instr.fill (fun i => some (i * size, size)) (zerosL zero len).toArray parts' = some l'.toArray := by
      rw [← hl']
      refine fill_places _ _ fun p hp => ?_
      have := fillL_places _ _ _ hl
      have hm : p.1 ∈ parts.map (·.1) := by rw [h1]; exact List.mem_map_of_mem hp
      obtain ⟨q, hq, hqe⟩ := List.mem_map.1 hm
      have hq' := this q hq
      rw [hqe] at hq'
      have hq2 : p.1 < len := by simpa using hq'
      simp [hq2]
    have hzr : (Array.range (len * size)).map (z.cells[· % z.cells.size]!) = (zerosL zero len).toArray := by
      rw [← hzs, zeros_range _ _ (by omega), hzz]
    by_cases h0 : len * size = 0
    · have hlen : len = 0 := by rcases Nat.mul_eq_zero.1 h0 with h | h <;> omega
      subst hlen
      simp only [zerosL] at hfill
      simp only [Instr.buildSlice, Sem.run_bind, run_underlying hu, Result.andThen_ok, run_sizeOf hsz, h0, if_true]
      simp only [gt_iff_lt, Nat.not_lt_zero, if_false, Sem.run_bind, Sem.run_pure, Result.andThen_ok]
      rw [show ((Array.range 0).map fun (x : Nat) => (#[] : Array Value)[x % (#[] : Array Value).size]!) = (#[] : Array Value) from by simp, hfill]
      dsimp only
      simp only [newRow, Sem.run_bind, run_newObj, Result.andThen_ok, Sem.run_pure, hb]
      rfl
    · have hle : ¬ (len * size > 2 ^ 24) := by omega
      simp only [Instr.buildSlice, Sem.run_bind, run_underlying hu, Result.andThen_ok, run_sizeOf hsz, h0, if_false, hle, hrun, Sem.run_pure, hzr, hfill, newRow, run_newObj, hb]
      rfl
  · have hlen : l0.length = len * size := by rw [fillL_length _ _ _ hl, zerosL_length, hzl]
    have := VRel.slice (ρ := upd ρ kk b) (S := fun j => S j ∨ j = kk) kk 0 0 len len len (.inr rfl) (Nat.le_refl _) (Nat.le_refl _) (by rw [upd_self, hs]; intro; rfl) (.inl rfl)
    rw [upd_self] at this
    exact this
end
end Go.AL
end
/- The library of this session's own, part 6: fields, indexes, cuts. -/
section
namespace Go.AL
open Go

theorem VRel.slice_inv {ρ : Nat → BI} {S : Nat → Prop} {k off len cap : Nat} {v' : Value} (h : VRel ρ S (.slice (some ⟨k, off, none⟩) len cap) v') :
    ∃ off' cap', v' = .slice (some ⟨(ρ k).blk, off', none⟩) len cap' ∧ S k ∧ len ≤ cap ∧ cap ≤ cap' ∧ (0 < cap' → off' = (ρ k).shift + off) ∧ (cap' = cap ∨ off' + cap' * (ρ k).esz ≤ (ρ k).size) := by
  cases h with
  | slice _ _ off' _ _ cap' h hl hc ho hx => exact ⟨off', cap', rfl, h, hl, hc, ho, hx⟩
section
variable {P : Program} {G : Nat} {ρ : Nat → BI} {S : Nat → Prop} {get : Nat → Option AObj} {w : World}

theorem fieldQ_spec {s : TypeId} {f o n : Nat} {ft : TypeId} (h : fieldQ P s f = some (o, ft, n)) :
    ∃ fs x, P.underlying s = some (.struct fs) ∧ fs[f]? = some x ∧ x.offset = o ∧ x.type = ft ∧ sizeQ P ft = some n := by
  unfold fieldQ at h
  split at h <;> try cases h
  rename_i fs hu
  simp only [Option.bind_eq_some_iff, Option.map_eq_some_iff, Prod.mk.injEq] at h
  obtain ⟨x, hx, i, hi, rfl, rfl, rfl⟩ := h
  exact ⟨fs, x, hu, hx, rfl, rfl, by simp [sizeQ, hi]⟩

def aFieldAddr (P : Program) (s : TypeId) (f : Nat) : Value → Option Value
  | .pointer (some ⟨k, off, none⟩) =>
    match fieldQ P s f with
    | some (o, _, n) => if n = 0 then none else some (.pointer (some ⟨k, off + o, none⟩))
    | none => none
  | _ => none
theorem aFieldAddr_sound {s : TypeId} {f : Nat} {v v' r : Value} (hv : VRel ρ S v v') (hr : aFieldAddr P s f v = some r) (w : World) :
    ∃ r', (Instr.fieldAt s v' f).run P w = .ok r' w ∧ VRel ρ S r r' := by
  cases hv <;> simp only [aFieldAddr] at hr <;> try cases hr
  rename_i k off hS
  split at hr <;> try cases hr
  rename_i o ft n hf
  split at hr <;> cases hr
  rename_i hn
  obtain ⟨fs, x, hu, hx, rfl, rfl, hs⟩ := fieldQ_spec hf
  refine ⟨.pointer (some ⟨(ρ k).blk, (ρ k).shift + (off + x.offset), none⟩), ?_, .ptr k _ hS⟩
  simp only [Instr.fieldAt, Sem.run_bind, run_underlying hu, Result.andThen_ok, hx, Instr.sureAddr, Sem.run_pure, fieldPlace, run_sizeOf hs, hn, if_false, add_lit, Nat.add_assoc]

/-- A part of a struct or an array that is held as a value. -/
def aPart (P : Program) (t : TypeId) (cs : List Value) (off : Nat) : Option Value :=
  match shapeQ P t with
  | some (.agg n) => if off + n ≤ cs.length then some (.agg ((cs.drop off).take n).toArray) else none
  | some .cell => cs[off]?
  | none => none
theorem aPart_sound {t : TypeId} {cs cs' : List Value} {off : Nat} {r : Value} (hc : LRel ρ S cs cs') (hr : aPart P t cs off = some r) (w : World) :
    ∃ r', (part t cs'.toArray off).run P w = .ok r' w ∧ VRel ρ S r r' := by
  unfold aPart at hr
  split at hr <;> try cases hr
  · rename_i n hs
    split at hr <;> cases hr
    refine ⟨.agg ((cs'.drop off).take n).toArray, ?_, .of_agg (by simpa using (hc.drop off).take n)⟩
    simp only [part, Sem.run_bind, run_isAgg hs, Result.andThen_ok, if_true, run_sizeOf (shape_size hs), Sem.run_pure]
    congr 2
    apply Array.ext'
    simp [List.take_drop]
  · rename_i hs
    obtain ⟨v', h1, h2⟩ := hc.get hr
    refine ⟨v', ?_, h2⟩
    have : cs'.toArray[off]? = some v' := by simpa using h1
    simp only [part, Sem.run_bind, run_isAgg hs, Result.andThen_ok, Bool.false_eq_true, if_false, this, Sem.run_pure]

def aField (P : Program) (s : TypeId) (f : Nat) : Value → Option Value
  | .agg cs =>
    match fieldQ P s f with
    | some (o, ft, _) => aPart P ft cs.toList o
    | none => none
  | _ => none
theorem aField_sound {s : TypeId} {f : Nat} {v v' r : Value} (hv : VRel ρ S v v') (hr : aField P s f v = some r) (w : World) :
    ∃ r', (Instr.field s v' f).run P w = .ok r' w ∧ VRel ρ S r r' := by
  unfold aField at hr
  split at hr <;> try cases hr
  rename_i cs
  split at hr <;> try cases hr
  rename_i o ft n hf
  obtain ⟨cs', rfl, hc⟩ := hv.agg_iff
  obtain ⟨fs, x, hu, hx, rfl, rfl, hs⟩ := fieldQ_spec hf
  obtain ⟨r', h1, h2⟩ := aPart_sound hc hr w
  refine ⟨r', ?_, h2⟩
  simp only [Instr.field, Sem.run_bind, run_underlying hu, Result.andThen_ok, hx, asAgg, Sem.run_pure]
  exact h1

def aIndexAddr (P : Program) (t : TypeId) (x i : Value) : Option Value :=
  match x, i with
  | .slice (some ⟨k, off, none⟩) len _, .int _ n =>
    match elemQ P t with
    | some (_, size, _) => if 0 ≤ n ∧ n < len then some (.pointer (some ⟨k, off + n.toNat * size, none⟩)) else none
    | none => none
  | .pointer (some ⟨k, off, none⟩), .int _ n =>
    match arrQ P t with
    | some (len, _, size) => if 0 ≤ n ∧ n < len then some (.pointer (some ⟨k, off + n.toNat * size, none⟩)) else none
    | none => none
  | _, _ => none
theorem arrQ_spec {t e : TypeId} {len size : Nat} (h : arrQ P t = some (len, e, size)) : P.underlying t = some (.array len e) ∧ sizeQ P e = some size := by
  unfold arrQ at h
  split at h <;> try cases h
  rename_i n e' hu
  simp only [Option.map_eq_some_iff, Prod.mk.injEq] at h
  obtain ⟨i, hi, rfl, rfl, rfl⟩ := h
  exact ⟨hu, by simp [sizeQ, hi]⟩
theorem elemQ_size {t e : TypeId} {size bytes : Nat} (h : elemQ P t = some (e, size, bytes)) : P.underlying t = some (.slice e) ∧ sizeQ P e = some size := by
  obtain ⟨i, h1, h2, h3, _⟩ := elemQ_spec h
  exact ⟨h1, by simp [sizeQ, h2, h3]⟩
theorem aIndexAddr_sound {t : TypeId} {x x' i i' r : Value} (hx : VRel ρ S x x') (hi : VRel ρ S i i') (hr : aIndexAddr P t x i = some r) (w : World) :
    ∃ r', (Instr.indexAt t x' i').run P w = .ok r' w ∧ VRel ρ S r r' := by
  unfold aIndexAddr at hr
  split at hr <;> try cases hr
  · rename_i k off len cap kd n
    split at hr <;> try cases hr
    rename_i e size bytes he
    split at hr <;> cases hr
    rename_i hn
    obtain ⟨off', cap', rfl, hS, hl, hc, ho, hx⟩ := hx.slice_inv
    cases hi
    obtain ⟨hu, hs⟩ := elemQ_size he
    have ho' := ho (by omega)
    subst ho'
    refine ⟨.pointer (some ⟨(ρ k).blk, (ρ k).shift + (off + n.toNat * size), none⟩), ?_, .ptr k _ hS⟩
    simp only [Instr.indexAt, Sem.run_bind, asIntOf, Sem.run_pure, Result.andThen_ok, run_underlying hu, hn, and_self, if_true, run_sizeOf hs, add_lit, Nat.add_assoc]
  · rename_i k off kd n
    split at hr <;> try cases hr
    rename_i len e size he
    split at hr <;> cases hr
    rename_i hn
    cases hx
    cases hi
    rename_i hS
    obtain ⟨hu, hs⟩ := arrQ_spec he
    refine ⟨.pointer (some ⟨(ρ k).blk, (ρ k).shift + (off + n.toNat * size), none⟩), ?_, .ptr k _ hS⟩
    simp only [Instr.indexAt, Sem.run_bind, asIntOf, Sem.run_pure, Result.andThen_ok, run_underlying hu, Instr.sureAddr, hn, and_self, if_true, run_sizeOf hs, add_lit, Nat.add_assoc]

def aIndex (P : Program) (t : TypeId) (x i : Value) : Option Value :=
  match x, i with
  | .string s, .int _ n =>
    match P.underlying t with
    | some .string => if 0 ≤ n then (s[n.toNat]?).map fun b => .int .u8 b.toNat else none
    | _ => none
  | .agg cs, .int _ n =>
    match arrQ P t with
    | some (len, e, size) => if 0 ≤ n ∧ n < len then aPart P e cs.toList (n.toNat * size) else none
    | none => none
  | _, _ => none
theorem aIndex_sound {t : TypeId} {x x' i i' r : Value} (hx : VRel ρ S x x') (hi : VRel ρ S i i') (hr : aIndex P t x i = some r) (w : World) :
    ∃ r', (Instr.index t x' i').run P w = .ok r' w ∧ VRel ρ S r r' := by
  unfold aIndex at hr
  split at hr <;> try cases hr
  · rename_i s kd n
    split at hr <;> try cases hr
    rename_i hu
    split at hr <;> try cases hr
    rename_i hn
    cases hx
    cases hi
    simp only [Option.map_eq_some_iff] at hr
    obtain ⟨b, hb, rfl⟩ := hr
    refine ⟨_, ?_, .int _ _⟩
    simp only [Instr.index, Sem.run_bind, asIntOf, Sem.run_pure, Result.andThen_ok, run_underlying hu, hn, if_true, hb]
  · rename_i cs kd n
    split at hr <;> try cases hr
    rename_i len e size he
    split at hr <;> try cases hr
    rename_i hn
    obtain ⟨cs', rfl, hc⟩ := hx.agg_iff
    cases hi
    obtain ⟨hu, hs⟩ := arrQ_spec he
    obtain ⟨r', h1, h2⟩ := aPart_sound hc hr w
    refine ⟨r', ?_, h2⟩
    simp only [Instr.index, Sem.run_bind, asIntOf, Sem.run_pure, Result.andThen_ok, run_underlying hu, hn, and_self, if_true, run_sizeOf hs]
    exact h1

-- cuts
def aInt : Value → Option Int
  | .int _ n => some n
  | _ => none
def aBound (y : Nat) : Option Value → Nat → Option Nat
  | none, d => some d
  | some (.int _ n), _ => if 0 ≤ n ∧ n ≤ y then some n.toNat else none
  | some _, _ => none
theorem run_sliceBound {v v' : Value} (hv : VRel ρ S v v') {y y' d n : Nat} (h : aBound y (some v) d = some n) (hy : y ≤ y') (c : BoundsCode) (w : World) : (Instr.sliceBound v' y' c).run P w = .ok n w ∧ n ≤ y := by
  cases hv <;> simp only [aBound] at h <;> try cases h
  rename_i k i
  split at h <;> cases h
  rename_i hb
  exact ⟨by simp only [Instr.sliceBound, Sem.run_bind, asIntOf, Sem.run_pure, Result.andThen_ok]; rw [if_pos (by omega)]; rfl, by omega⟩

/-- The bounds of a cut: low, high, and how much is left from the front on. -/
def aBounds (len cap : Nat) (lo hi mx : Option Value) : Option (Nat × Nat × Nat) :=
  match aBound cap mx cap with
  | some m =>
    match (if mx.isSome && hi.isNone then none else aBound m hi len) with
    | some h =>
      match aBound h lo 0 with
      | some l => if h ≤ m then some (l, h, m) else none
      | none => none
    | none => none
  | none => none
def ORelV (ρ : Nat → BI) (S : Nat → Prop) : Option Value → Option Value → Prop
  | none, none => True
  | some v, some v' => VRel ρ S v v'
  | _, _ => False
theorem run_sliceBounds {lo lo' hi hi' mx mx' : Option Value} (h1 : ORelV ρ S lo lo') (h2 : ORelV ρ S hi hi') (h3 : ORelV ρ S mx mx') {len cap cap' l h m : Nat} (hc : cap ≤ cap') (_ : len ≤ cap)
    (hr : aBounds len cap lo hi mx = some (l, h, m)) (isSlice : Bool) (w : World) :
    ∃ m', (Instr.sliceBounds isSlice len cap' lo' hi' mx').run P w = .ok (l, h, m') w ∧ l ≤ h ∧ h ≤ m ∧ m ≤ cap ∧ (if mx.isSome then m' = m else m = cap ∧ m' = cap') := by
  unfold aBounds at hr
  split at hr <;> try cases hr
  rename_i m0 hm
  split at hr <;> try cases hr
  rename_i h0 hh
  split at hr <;> try cases hr
  rename_i l0 hl0
  split at hr <;> cases hr
  rename_i hhm
  have hlow : ∀ (c : BoundsCode) (K : Nat → Sem (Nat × Nat × Nat)), (match (generalizing := false) lo' with
      | some v => (do let l ← Instr.sliceBound v h c; K l)
      | none => (do let l ← pure 0; K l) : Sem (Nat × Nat × Nat)).run P w = (K l).run P w ∧ l ≤ h := by
    intro c K
    cases lo <;> cases lo' <;> simp only [ORelV] at h1
    · simp only [aBound] at hl0; cases hl0; exact ⟨rfl, Nat.zero_le _⟩
    · have := run_sliceBound (P := P) h1 hl0 (Nat.le_refl _) c w
      exact ⟨by simp only [Sem.run_bind, this.1, Result.andThen_ok], this.2⟩
  have hlh := (hlow .sliceB fun _ => pure (0, 0, 0)).2
  cases mx <;> cases mx' <;> simp only [ORelV] at h3
  · simp only [aBound] at hm
    cases hm
    refine ⟨cap', ?_, hlh, hhm, Nat.le_refl _, by simp⟩
    cases hi <;> cases hi' <;> simp only [ORelV] at h2
    · simp only [Option.isSome_none, Bool.false_and, Bool.false_eq_true, if_false, aBound] at hh
      cases hh
      simp only [Instr.sliceBounds, Sem.run_bind, Sem.run_pure, Result.andThen_ok]
      exact (hlow _ _).1
    · simp only [Option.isSome_none, Bool.false_and, Bool.false_eq_true, if_false] at hh
      have := run_sliceBound (P := P) h2 hh hc (if isSlice then .sliceAcap else .sliceAlen) w
      simp only [Instr.sliceBounds, Sem.run_bind, Sem.run_pure, Result.andThen_ok, this.1]
      exact (hlow _ _).1
  · have hmr := run_sliceBound (P := P) h3 hm hc (if isSlice then .slice3Acap else .slice3Alen) w
    refine ⟨m, ?_, hlh, hhm, hmr.2, by simp⟩
    cases hi <;> cases hi' <;> simp only [ORelV] at h2
    · simp at hh
    · simp only [Option.isSome_some, Option.isNone_some, Bool.and_false, Bool.false_eq_true, if_false] at hh
      have := run_sliceBound (P := P) h2 hh (Nat.le_refl _) .slice3B w
      simp only [Instr.sliceBounds, Sem.run_bind, Result.andThen_ok, hmr.1, this.1]
      exact (hlow _ _).1

def aSlice (P : Program) (t : TypeId) (get : Nat → Option AObj) (x : Value) (lo hi mx : Option Value) : Option Value :=
  match x with
  | .string s =>
    match P.underlying t with
    | some .string => if mx.isSome then none else (aBounds s.size s.size lo hi none).map fun (l, h, _) => .string (s.extract l h)
    | _ => none
  | .slice none 0 0 =>
    match P.underlying t with
    | some (.slice e) => if (sizeQ P e).isSome then (aBounds 0 0 lo hi mx).map fun _ => .slice none 0 0 else none
    | _ => none
  | .slice (some ⟨k, off, none⟩) len cap =>
    match elemQ P t, get k with
    | some (_, size, _), some (.cells _ e' _ _) =>
      if P.cellsOf e' = size then
        (aBounds len cap lo hi mx).map fun (l, h, m) =>
          if mx.isSome && m == l then .slice (some ⟨0, 0, some 0⟩) 0 0 else .slice (some ⟨k, off + l * size, none⟩) (h - l) (m - l)
      else none
    | _, _ => none
  | .pointer (some ⟨k, off, none⟩) =>
    match arrQ P t with
    | some (n, _, size) => (aBounds n n lo hi mx).map fun (l, h, m) => .slice (some ⟨k, off + l * size, none⟩) (h - l) (m - l)
    | none => none
  | _ => none
theorem aSlice_sound (h : SimS P G ρ S get w) {t : TypeId} {x x' r : Value} {lo lo' hi hi' mx mx' : Option Value} (hx : VRel ρ S x x') (h1 : ORelV ρ S lo lo') (h2 : ORelV ρ S hi hi') (h3 : ORelV ρ S mx mx')
    (hr : aSlice P t get x lo hi mx = some r) : ∃ r', (Instr.sliceAt t x' lo' hi' mx').run P w = .ok r' w ∧ VRel ρ S r r' := by
  unfold aSlice at hr
  split at hr
  · rename_i s
    cases hx
    split at hr <;> try cases hr
    rename_i hu
    split at hr <;> try cases hr
    rename_i hm
    simp only [Option.map_eq_some_iff] at hr
    obtain ⟨⟨l, hh, m⟩, hb, rfl⟩ := hr
    have e1 : mx = none := by simpa using hm
    subst e1
    have e2 : mx' = none := by cases mx' with
      | none => rfl
      | some v => simp [ORelV] at h3
    subst e2
    obtain ⟨m', hrun, _⟩ := run_sliceBounds (P := P) h1 h2 h3 (Nat.le_refl _) (Nat.le_refl _) hb false w
    refine ⟨_, ?_, .string _⟩
    simp only [Instr.sliceAt, Sem.run_bind, run_underlying hu, Result.andThen_ok, Instr.slice, Option.isSome_none, Bool.false_eq_true, if_false, Sem.run_pure, hrun]
  · cases hx
    split at hr <;> try cases hr
    rename_i e hu
    split at hr <;> try cases hr
    rename_i hs
    simp only [Option.map_eq_some_iff] at hr
    obtain ⟨⟨l, hh, m⟩, hb, rfl⟩ := hr
    obtain ⟨size, hs⟩ := Option.isSome_iff_exists.1 hs
    obtain ⟨m', hrun, a1, a2, a3, a4⟩ := run_sliceBounds (P := P) h1 h2 h3 (Nat.le_refl _) (Nat.le_refl _) hb true w
    have : m' = 0 := by split at a4 <;> omega
    refine ⟨.slice none 0 0, ?_, .sliceNil⟩
    simp only [Instr.sliceAt, Sem.run_bind, run_underlying hu, Result.andThen_ok, Instr.slice, hrun, run_sizeOf hs, Sem.run_pure, Option.map_none, ite_self]
    rw [show hh - l = 0 from by omega, show m' - l = 0 from by omega]
  · rename_i k off len cap
    split at hr <;> try cases hr
    rename_i e size bytes cs e' fz ro he hk
    split at hr <;> try cases hr
    rename_i hes
    simp only [Option.map_eq_some_iff] at hr
    obtain ⟨⟨l, hh, m⟩, hb, rfl⟩ := hr
    obtain ⟨off', cap', rfl, hS, hl, hc, ho, hx⟩ := hx.slice_inv
    obtain ⟨hu, hs⟩ := elemQ_size he
    obtain ⟨m', hrun, a1, a2, a3, a4⟩ := run_sliceBounds (P := P) h1 h2 h3 hc hl hb true w
    obtain ⟨o, _, c, fr, _, _, hesz, _⟩ := h.objs k _ hk
    refine ⟨.slice (if m' = l then some ⟨(ρ k).blk, off', none⟩ else some ⟨(ρ k).blk, off' + l * size, none⟩) (hh - l) (m' - l), ?_, ?_⟩
    · simp only [Instr.sliceAt, Sem.run_bind, run_underlying hu, Result.andThen_ok, Instr.slice, hrun, run_sizeOf hs, Sem.run_pure, Option.map_some, add_lit]
    · dsimp only
      split
      · rename_i hml
        simp only [Bool.and_eq_true, beq_iff_eq] at hml
        simp only [hml.1, if_true] at a4
        rw [if_pos (a4.trans hml.2), show hh - l = 0 from by omega, show m' - l = 0 from by omega]
        exact .sliceEmpty _
      · rename_i hml
        have hm' : m ≤ m' := by split at a4 <;> omega
        split
        · rename_i e
          exact .slice k _ _ _ _ _ hS (by omega) (by omega) (fun hp => by omega) (.inl (by omega))
        · rename_i e
          refine .slice k _ _ _ _ _ hS (by omega) (by omega) (fun _ => ?_) ?_
          · rw [ho (by split at a4 <;> omega)]; omega
          · by_cases hmx : mx.isSome = true
            · simp only [hmx, if_true] at a4; left; omega
            · simp only [hmx, Bool.false_eq_true, if_false] at a4
              rcases hx with hx | hx
              · left; omega
              · right
                rw [a4.2, hesz, hes] at *
                have : cap' * size = l * size + (cap' - l) * size := by rw [← Nat.add_mul]; congr 1; omega
                omega
  · rename_i k off
    split at hr <;> try cases hr
    rename_i n e size he
    simp only [Option.map_eq_some_iff] at hr
    obtain ⟨⟨l, hh, m⟩, hb, rfl⟩ := hr
    cases hx
    rename_i hS
    obtain ⟨hu, hs⟩ := arrQ_spec he
    obtain ⟨m', hrun, a1, a2, a3, a4⟩ := run_sliceBounds (P := P) h1 h2 h3 (Nat.le_refl _) (Nat.le_refl _) hb false w
    have hmm : m' = m := by split at a4 <;> omega
    subst hmm
    refine ⟨.slice (some (if m' = l then ⟨(ρ k).blk, (ρ k).shift + off, none⟩ else ⟨(ρ k).blk, (ρ k).shift + off + l * size, none⟩)) (hh - l) (m' - l), ?_, ?_⟩
    · simp only [Instr.sliceAt, Sem.run_bind, run_underlying hu, Result.andThen_ok, Instr.sureAddr, hrun, run_sizeOf hs, Sem.run_pure, add_lit]
    · dsimp only
      split
      · exact .slice k _ _ _ _ _ hS (by omega) (Nat.le_refl _) (fun hp => by omega) (.inl rfl)
      · exact .slice k _ _ _ _ _ hS (by omega) (Nat.le_refl _) (fun _ => by omega) (.inl rfl)
  · cases hr
end
end Go.AL
end
/- The library of this session's own, part 7: append, copy, make. -/
section
namespace Go.AL
open Go

inductive Eff where
  | none
  | new (a : AObj)
  | set (k : Nat) (a : AObj)
  | move (k : Nat) (a : AObj)

/-- The memory behind an effect; `kk` is the new block's name. -/
def Eff.get (e : Eff) (kk : Nat) (get : Nat → Option AObj) : Nat → Option AObj :=
  match e with
  | .none => get
  | .new a => upd get kk (some a)
  | .set k a => upd get k (some a)
  | .move k a => upd (upd get k Option.none) kk (some a)
def Eff.S (e : Eff) (kk : Nat) (S : Nat → Prop) : Nat → Prop :=
  match e with
  | .none | .set _ _ => S
  | .new _ | .move _ _ => fun j => S j ∨ j = kk

section
variable {P : Program} {G : Nat} {ρ : Nat → BI} {S : Nat → Prop} {get : Nat → Option AObj} {w : World}

theorem run_append_in (t0 t1 ty e : TypeId) (size : Nat) (h0 : P.underlying t0 = some (.slice e)) (h1 : (∃ e1, P.underlying t1 = some (.slice e1)) ∨ P.underlying t1 = some .string) (hs : sizeQ P e = some size)
    (base : Option Addr) (sLen sCap n : Nat) (x : Value) (news : List Value) (hlen : (Builtin.lenOf x).run P w = .ok n w) (hnews : (Builtin.firstCells size n x).run P w = .ok news.toArray w) (hroom : sLen + n ≤ sCap) :
    (Builtin.append_ #[t0, t1] ty #[.slice base sLen sCap, x]).run P w =
      ((match base with | some a => storeCells (a.add (sLen * size)) news | none => pure () : Sem Unit).run P w).andThen fun _ w' => .ok (.slice base (sLen + n) sCap) w' := by
  rcases h1 with ⟨e1, h1⟩ | h1 <;> cases base <;> simp [Builtin.append_, run_underlying h0, run_underlying h1, run_sizeOf hs, hlen, hroom, hnews]

theorem run_append_out (t0 t1 ty e : TypeId) (i : TypeInfo) (z : Value) (h0 : P.underlying t0 = some (.slice e)) (h1 : (∃ e1, P.underlying t1 = some (.slice e1)) ∨ P.underlying t1 = some .string) (hi : P.info? e = some i)
    (hz : i.zero = some z) (base : Option Addr) (sLen sCap n : Nat) (x : Value) (old news : List Value) (hlen : (Builtin.lenOf x).run P w = .ok n w)
    (hn : (Builtin.firstCells i.size n x).run P w.drew = .ok news.toArray w.drew) (ho : (Builtin.firstCells i.size sLen (.slice base sLen sCap)).run P w.drew = .ok old.toArray w.drew)
    (hroom : sCap < sLen + n) (hbytes : (sLen + n) * i.bytes ≤ 140737488355328) (hmax : sLen + n ≤ maxLen) :
    (Builtin.append_ #[t0, t1] ty #[.slice base sLen sCap, x]).run P w =
      .ok (.slice (some ⟨w.heap.size, 0, none⟩) (sLen + n) (grownCap w (sLen + n) sCap e))
        (w.drew.alloc (.cells (old ++ news ++ (Builtin.zeroCells z.cells (grownCap w (sLen + n) sCap e - (sLen + n))).toList).toArray e)) := by
  have hfit := growslice_fits hroom hbytes
  have hsz : sizeQ P e = some i.size := by simp [sizeQ, hi]
  have hn' : ¬ (sLen + n ≤ sCap) := by omega
  have h63' : ¬ (9223372036854775807 < ((sLen : Int) + (n : Int))) := by simp only [maxLen] at hmax; omega
  have h48' : ¬ (281474976710656 < Builtin.nextslicecap (sLen + n) sCap * i.bytes) := by omega
  rcases h1 with ⟨e1, h1⟩ | h1 <;>
    (simp [Builtin.append_, run_underlying h0, run_underlying h1, run_sizeOf hsz, run_typeInfo hi, zeroValue, hz, hlen, hn', h63', h48', Question.forced, hn, ho, newRow, grownCap]; congr 2; apply Array.ext'; simp)

/-- What is appended: how many elements, and their cells. -/
def newsOf (get : Nat → Option AObj) (size : Nat) : Value → Option (Nat × List Value)
  | .slice none 0 0 => some (0, [])
  | .slice (some ⟨0, 0, some 0⟩) 0 0 => some (0, [])
  | .slice (some ⟨k, off, none⟩) n _ =>
    if n = 0 then some (0, []) else
    match get k with
    | some (.cells cs _ _ _) => if off + n * size ≤ cs.length then some (n, (cs.drop off).take (n * size)) else none
    | _ => none
  | .string s => if size = 1 then some (s.size, s.data.toList.map fun b => .int .u8 b.toNat) else none
  | _ => none
theorem cell_heap {w w2 : World} (h : w2.heap = w.heap) (a : Addr) : w2.cell? a = w.cell? a := by simp [World.cell?, h]
theorem newsOf_more (h : SimS P G ρ S get w) {size : Nat} {x x' : Value} (hx : VRel ρ S x x') {n : Nat} {l : List Value} (hr : newsOf get size x = some (n, l)) :
    ∃ l', LRel ρ S l l' ∧ l.length = n * size ∧ (∀ v ∈ l', v.oneCell' = true) ∧ ∀ w2 : World, w2.heap = w.heap → (Builtin.lenOf x').run P w2 = .ok n w2 ∧
      ∀ m, m ≤ n → (Builtin.firstCells size m x').run P w2 = .ok (l'.take (m * size)).toArray w2 := by
  unfold newsOf at hr
  split at hr
  · cases hr
    cases hx
    exact ⟨[], .nil, by simp, by simp, fun w2 _ => ⟨rfl, fun m _ => by simp [Builtin.firstCells]⟩⟩
  · cases hr
    cases hx
    rename_i a
    exact ⟨[], .nil, by simp, by simp, fun w2 _ => ⟨rfl, fun m hm => by obtain rfl : m = 0 := Nat.le_zero.1 hm; simp [Builtin.firstCells, loadCells, loadCellsFrom]⟩⟩
  · rename_i k off n0 cap
    obtain ⟨off', cap', rfl, hS, hl, hc, ho, _⟩ := hx.slice_inv
    split at hr
    · rename_i h0
      cases hr
      subst h0
      exact ⟨[], .nil, by simp, by simp, fun w2 _ => ⟨rfl, fun m hm => by obtain rfl : m = 0 := Nat.le_zero.1 hm; simp [Builtin.firstCells, loadCells, loadCellsFrom]⟩⟩
    · split at hr <;> try cases hr
      rename_i hn cs e fz ro hk
      split at hr <;> cases hr
      rename_i hlen
      obtain ⟨l', h1, h2, h3⟩ := h.cells hk off (n * size) hlen
      have hcell := (h.objs k _ hk)
      obtain ⟨o, _, c, fr, _, _, _, _, _, hone, _⟩ := hcell
      refine ⟨l', h2, by simp; omega, h2.one (by simp only [List.all_eq_true]; intro v hv; exact hone v (List.mem_of_mem_drop (List.mem_of_mem_take hv))), fun w2 hw => ⟨rfl, fun m hm => ?_⟩⟩
      rw [ho (by omega)]
      simp only [Builtin.firstCells]
      have hmul : m * size ≤ n * size := Nat.mul_le_mul_right _ hm
      refine run_loadCells_rel w2 _ _ _ (fun j v hj => ?_) _ (by simp; omega)
      rw [List.getElem?_take] at hj
      split at hj
      · rw [cell_heap hw]; exact h3 j v hj
      · cases hj
  · rename_i s
    split at hr <;> cases hr
    rename_i h1
    subst h1
    cases hx
    refine ⟨_, flatL_rel (by simp only [List.all_map, List.all_eq_true]; intros; rfl), by simp, by simp [Value.oneCell'], fun w2 _ => ⟨rfl, fun m hm => ?_⟩⟩
    simp only [Builtin.firstCells, Sem.run_pure]
    congr 1
    apply Array.ext'
    simp [ByteArray.extract, ByteArray.copySlice]
  · cases hr
theorem newsOf_sound (h : SimS P G ρ S get w) {size : Nat} {x x' : Value} (hx : VRel ρ S x x') {n : Nat} {l : List Value} (hr : newsOf get size x = some (n, l)) :
    ∃ l', LRel ρ S l l' ∧ l.length = n * size ∧ (∀ v ∈ l', v.oneCell' = true) ∧ ∀ w2 : World, w2.heap = w.heap → (Builtin.lenOf x').run P w2 = .ok n w2 ∧ (Builtin.firstCells size n x').run P w2 = .ok l'.toArray w2 := by
  obtain ⟨l', h1, h2, h3, h4⟩ := newsOf_more h hx hr
  refine ⟨l', h1, h2, h3, fun w2 hw => ⟨(h4 w2 hw).1, ?_⟩⟩
  rw [(h4 w2 hw).2 n (Nat.le_refl _), List.take_of_length_le (by rw [← h1.1, h2]; exact Nat.le_refl _)]

def isSeqQ (P : Program) (t : TypeId) : Bool :=
  match P.underlying t with
  | some (.slice _) => true
  | some .string => true
  | _ => false
theorem isSeqQ_spec {t : TypeId} (h : isSeqQ P t = true) : (∃ e1, P.underlying t = some (.slice e1)) ∨ P.underlying t = some .string := by
  unfold isSeqQ at h
  split at h
  · exact .inl ⟨_, by assumption⟩
  · exact .inr (by assumption)
  · cases h

/-- 'append': what comes out, and what becomes of the memory. -/
def aAppend (P : Program) (t0 t1 : TypeId) (get : Nat → Option AObj) (kk : Nat) (s x : Value) : Option (Value × Eff) :=
  match elemQ P t0, isSeqQ P t1 with
  | some (e, size, bytes), true =>
    match newsOf get size x, zeroQ P e with
    | some (n, news), some zero =>
      if size = 0 ∨ zero.length ≠ size ∨ P.cellsOf e ≠ size then none
      else
        match s with
        | .slice none 0 0 =>
          if n = 0 then some (.slice none 0 0, .none)
          else if n * bytes ≤ 140737488355328 ∧ n ≤ maxLen then some (.slice (some ⟨kk, 0, none⟩) n n, .new (.cells news e 0 false)) else none
        | .slice (some ⟨k, off, none⟩) sLen sCap =>
          if n = 0 then some (.slice (some ⟨k, off, none⟩) sLen sCap, .none)
          else if sLen + n ≤ sCap then (aWrite get k (off + sLen * size) news).map fun a => (.slice (some ⟨k, off, none⟩) (sLen + n) sCap, .set k a)
          else
            match get k with
            | some (.cells cs e' fz false) =>
              if e' = e ∧ off + sLen * size ≤ cs.length ∧ fz ≤ off + sLen * size ∧ (sLen + n) * bytes ≤ 140737488355328 ∧ sLen + n ≤ maxLen then
                some (.slice (some ⟨kk, 0, none⟩) (sLen + n) (sLen + n), .move k (.cells ((cs.drop off).take (sLen * size) ++ news) e (fz - off) false))
              else none
            | _ => none
        | .slice (some ⟨0, 0, some 0⟩) 0 0 =>
          if n = 0 then some (.slice (some ⟨0, 0, some 0⟩) 0 0, .none)
          else if n * bytes ≤ 140737488355328 ∧ n ≤ maxLen then some (.slice (some ⟨kk, 0, none⟩) n n, .new (.cells news e 0 false)) else none
        | _ => none
    | _, _ => none
  | _, _ => none

/-- Both ways of a growing append: a new block. -/
theorem grow_new (h : SimS P G ρ S get w) {kk : Nat} (hk : ¬ S kk) {e : TypeId} {size need cap : Nat} (hes : P.cellsOf e = size) {l l' rest : List Value} (hl : LRel ρ S l l') (h1 : ∀ v ∈ l, v.oneCell' = true)
    (hlen : l.length = need * size) (hrest : rest.length = (cap - need) * size) (hcap : need ≤ cap) (fz : Nat) (n : Nat) :
    ∃ b : BI, b.blk = w.heap.size ∧ b.shift = 0 ∧ StepS P G ρ S get w (upd ρ kk b) (fun j => S j ∨ j = kk) (upd get kk (some (.cells l e fz false))) ({ w with drawn := n }.alloc (.cells (l' ++ rest).toArray e)) ∧
      VRel (upd ρ kk b) (fun j => S j ∨ j = kk) (.slice (some ⟨kk, 0, none⟩) need need) (.slice (some ⟨w.heap.size, 0, none⟩) need cap) := by
  have hll := hl.1
  have hsz : (l' ++ rest).length = cap * size := by
    rw [List.length_append, ← hll, hlen, hrest, ← Nat.add_mul]; congr 1; omega
  refine ⟨⟨w.heap.size, 0, cap * size, size⟩, rfl, rfl, ?_, ?_⟩
  · have hor : ORel P ρ S ⟨w.heap.size, 0, cap * size, size⟩ (.cells l e fz false) (.cells (l' ++ rest).toArray e) := by
      refine ⟨_, (0, 0), rfl, by simpa using hsz, hes.symm, ?_, ?_, h1, fun _ => .inl rfl⟩
      · simp only [List.size_toArray, hsz, Nat.zero_add, hlen]
        exact Nat.mul_le_mul_right _ hcap
      · simp only [List.drop_zero, hll]
        rw [List.take_left]
        exact hl
    have h2 : SimS P G ρ S get { w with drawn := n } := { h with }
    have := StepS.alloc h2 kk hk _ _ _ rfl hor
    exact { this with os := this.os, tape := this.tape, output := this.output, size := this.size, frame := this.frame }
  · have := VRel.slice (ρ := upd ρ kk ⟨w.heap.size, 0, cap * size, size⟩) (S := fun j => S j ∨ j = kk) kk 0 0 need need cap (.inr rfl) (Nat.le_refl _) hcap (by rw [upd_self]; intro _; rfl) (.inr (by rw [upd_self]; simp))
    rw [upd_self] at this
    exact this

theorem zeroQ_info {e : TypeId} {zero : List Value} (h : zeroQ P e = some zero) : ∃ i z, P.info? e = some i ∧ i.zero = some z ∧ z.cells.toList = zero := by
  unfold zeroQ at h
  simp only [Option.bind_eq_some_iff, Option.map_eq_some_iff] at h
  obtain ⟨i, hi, z, hz, rfl⟩ := h
  exact ⟨i, z, hi, hz, rfl⟩

theorem append_nothing {t0 t1 ty e : TypeId} {size : Nat} (h0 : P.underlying t0 = some (.slice e)) (h1 : (∃ e1, P.underlying t1 = some (.slice e1)) ∨ P.underlying t1 = some .string) (hs : sizeQ P e = some size)
    (base : Option Addr) (sLen sCap : Nat) (x' : Value) {l' : List Value} (hl : l' = []) (hcap : sLen ≤ sCap)
    (hn : (Builtin.lenOf x').run P w = .ok 0 w ∧ (Builtin.firstCells size 0 x').run P w = .ok l'.toArray w) :
    (Builtin.append_ #[t0, t1] ty #[.slice base sLen sCap, x']).run P w = .ok (.slice base sLen sCap) w := by
  subst hl
  rw [run_append_in t0 t1 ty e size h0 h1 hs base sLen sCap 0 x' [] hn.1 hn.2 (by omega)]
  cases base <;> simp [storeCells]

theorem LRel.nil_of {l l' : List Value} (h : LRel ρ S l l') (h0 : l.length = 0) : l' = [] := List.eq_nil_of_length_eq_zero (by rw [← h.1]; exact h0)

theorem append_fresh (h : SimS P G ρ S get w) {kk : Nat} (hk : ¬ S kk) {t0 t1 ty e : TypeId} {i : TypeInfo} {z : Value} (h0 : P.underlying t0 = some (.slice e)) (h1 : (∃ e1, P.underlying t1 = some (.slice e1)) ∨ P.underlying t1 = some .string)
    (hi : P.info? e = some i) (hz : i.zero = some z) (hzs : z.cells.size = i.size) (hes : P.cellsOf e = i.size) (base : Option Addr) {sLen sCap n : Nat} {x' : Value} {old old' news news' : List Value} (hold : LRel ρ S old old') (hnew : LRel ρ S news news')
    (hol : old.length = sLen * i.size) (hnl : news.length = n * i.size) (h1o : ∀ v ∈ old, v.oneCell' = true) (h1n : ∀ v ∈ news, v.oneCell' = true)
    (hx : ∀ w2 : World, w2.heap = w.heap → (Builtin.lenOf x').run P w2 = .ok n w2 ∧ (Builtin.firstCells i.size n x').run P w2 = .ok news'.toArray w2)
    (ho : (Builtin.firstCells i.size sLen (.slice base sLen sCap)).run P w.drew = .ok old'.toArray w.drew)
    (hroom : sCap < sLen + n) (hbytes : (sLen + n) * i.bytes ≤ 140737488355328) (hmax : sLen + n ≤ maxLen) (fz : Nat) :
    ∃ ρ' v' w', (Builtin.append_ #[t0, t1] ty #[.slice base sLen sCap, x']).run P w = .ok v' w' ∧
      VRel ρ' (fun j => S j ∨ j = kk) (.slice (some ⟨kk, 0, none⟩) (sLen + n) (sLen + n)) v' ∧
      StepS P G ρ S get w ρ' (fun j => S j ∨ j = kk) (upd get kk (some (.cells (old ++ news) e fz false))) w' := by
  have hrun := run_append_out (P := P) (w := w) t0 t1 ty e i z h0 h1 hi hz base sLen sCap n x' old' news' (hx w rfl).1 (hx w.drew rfl).2 ho hroom hbytes hmax
  have hge := grownCap_ge w (sLen + n) sCap e
  obtain ⟨b, hb1, hb2, hst, hv⟩ := grow_new (P := P) h hk (e := e) (size := i.size) (need := sLen + n) (cap := grownCap w (sLen + n) sCap e) hes (hold.append hnew)
    (by intro v hv; rcases List.mem_append.1 hv with hv | hv; exact h1o v hv; exact h1n v hv) (by rw [List.length_append, hol, hnl, ← Nat.add_mul])
    (rest := (Builtin.zeroCells z.cells (grownCap w (sLen + n) sCap e - (sLen + n))).toList) (by rw [Array.length_toList, size_zeroCells, hzs]) hge fz (w.drawn + 1)
  exact ⟨_, _, _, hrun, hv, hst⟩

theorem aAppend_sound (h : SimS P G ρ S get w) {kk : Nat} (hk : ¬ S kk) {t0 t1 ty : TypeId} {s s' x x' v : Value} {e : Eff} (hs : VRel ρ S s s') (hx : VRel ρ S x x') (hr : aAppend P t0 t1 get kk s x = some (v, e)) :
    ∃ ρ' v' w', (Builtin.append_ #[t0, t1] ty #[s', x']).run P w = .ok v' w' ∧ VRel ρ' (e.S kk S) v v' ∧ StepS P G ρ S get w ρ' (e.S kk S) (e.get kk get) w' := by
  unfold aAppend at hr
  split at hr <;> try cases hr
  rename_i el size bytes hel hsq
  split at hr <;> try cases hr
  rename_i n news zero hnews hzero
  split at hr
  · cases hr
  rename_i hsz
  simp only [not_or] at hsz
  obtain ⟨hs0, hzl, hes⟩ := hsz
  have hes : P.cellsOf el = size := Decidable.of_not_not hes
  have hzl : zero.length = size := Decidable.of_not_not hzl
  obtain ⟨i, h0, hi, his, hib⟩ := elemQ_spec hel
  obtain ⟨i2, z, hi2, hz, hzz⟩ := zeroQ_info hzero
  rw [hi] at hi2
  cases hi2
  have h1 := isSeqQ_spec hsq
  have hsize : sizeQ P el = some size := by simp [sizeQ, hi, his]
  obtain ⟨l', hl, hll, hone, hrunx⟩ := newsOf_sound h hx hnews
  have honen : ∀ v ∈ news, v.oneCell' = true := by
    intro v hv
    obtain ⟨j, hj, rfl⟩ := List.getElem_of_mem hv
    have hj' : j < l'.length := by rw [← hl.1]; exact hj
    rw [← (hl.2 j hj hj').oneCell]
    exact hone _ (List.getElem_mem hj')
  have hzs : z.cells.size = i.size := by rw [his, ← hzl, ← hzz, Array.length_toList]
  subst his
  subst hib
  split at hr
  · cases hs
    split at hr
    · rename_i hn
      subst hn
      cases hr
      exact ⟨ρ, _, w, append_nothing h0 h1 hsize none 0 0 x' (hl.nil_of (by simpa using hll)) (Nat.le_refl _) (hrunx w rfl), .sliceNil, StepS.refl h⟩
    · rename_i hn
      split at hr <;> cases hr
      rename_i hb
      have := append_fresh h hk (ty := ty) h0 h1 hi hz hzs hes none (sLen := 0) (sCap := 0) (n := n) (old := []) (old' := []) .nil hl (by simp) hll (by simp) honen hrunx (by simp [Builtin.firstCells]) (by omega) (by simpa using hb.1) (by simpa using hb.2) 0
      simpa [Eff.S, Eff.get] using this
  · rename_i k off sLen sCap
    obtain ⟨off', cap', rfl, hSk, hlc, hcc, ho, hxx⟩ := hs.slice_inv
    split at hr
    · rename_i hn
      subst hn
      cases hr
      exact ⟨ρ, _, w, append_nothing h0 h1 hsize _ sLen cap' x' (hl.nil_of (by simpa using hll)) (by omega) (hrunx w rfl), hs, StepS.refl h⟩
    · rename_i hn
      split at hr
      · rename_i hroom
        simp only [Option.map_eq_some_iff] at hr
        obtain ⟨a, ha, hr⟩ := hr
        cases hr
        rw [ho (by omega)]
        obtain ⟨w', hst, hstep⟩ := aWrite_sound h hl ha
        refine ⟨ρ, .slice (some ⟨(ρ k).blk, off', none⟩) (sLen + n) cap', w', ?_, .slice k _ _ _ _ _ hSk hroom hcc ho hxx, hstep⟩
        rw [run_append_in t0 t1 ty el i.size h0 h1 hsize _ sLen cap' n x' l' (hrunx w rfl).1 (hrunx w rfl).2 (by omega)]
        simp only [add_lit, Nat.add_assoc]
        rw [hst, ← ho (by omega)]
        rfl
      · rename_i hroom
        split at hr <;> try cases hr
        rename_i cs e' fz hkk
        split at hr <;> cases hr
        rename_i hc
        obtain ⟨rfl, hlen, hfz, hbytes, hmax⟩ := hc
        have hoff : 0 < sLen → off' = (ρ k).shift + off := fun hp => ho (by omega)
        obtain ⟨o, hheap, c, fr, rfl, hcsz, hcesz, hccs, hcrel, hcone, hcfr⟩ := h.objs k _ hkk
        obtain ⟨old', hol', holdrel, holdc⟩ := h.cells hkk off (sLen * i.size) hlen
        have honeold : ∀ v ∈ (cs.drop off).take (sLen * i.size), v.oneCell' = true := fun v hv => hcone v (List.mem_of_mem_drop (List.mem_of_mem_take hv))
        have hollen : ((cs.drop off).take (sLen * i.size)).length = sLen * i.size := by simp; omega
        by_cases hin : sLen + n ≤ cap'
        · -- in place
          have hoff' := ho (by omega)
          have hroomc : off' + cap' * (ρ k).esz ≤ (ρ k).size := by rcases hxx with hxx | hxx; omega; exact hxx
          have hmul : (sLen + n) * i.size ≤ cap' * i.size := Nat.mul_le_mul_right _ hin
          rw [hcesz, hes] at hroomc
          have hnl := hl.1
          have hadd : sLen * i.size + n * i.size ≤ cap' * i.size := by rw [← Nat.add_mul]; exact hmul
          clear hmul
          have hst := run_storeCells_rel (P := P) (ρ k).blk e' fr (off' + sLen * i.size) l' 0 c w hheap (by omega) hone (fun j a b => thawed (hcfr rfl) (by omega))
          refine ⟨upd ρ kk ⟨(ρ k).blk, off', (ρ k).size, (ρ k).esz⟩, .slice (some ⟨(ρ k).blk, off', none⟩) (sLen + n) cap', _, ?_, ?_, StepS.move h k kk _ hkk rfl hk _ (.cells (c.toList.take (off' + sLen * i.size + 0) ++ l' ++ c.toList.drop (off' + sLen * i.size + 0 + l'.length)).toArray e' fr) ⟨(ρ k).blk, off', (ρ k).size, (ρ k).esz⟩ rfl ?_⟩
          · rw [run_append_in t0 t1 ty e' i.size h0 h1 hsize _ sLen cap' n x' l' (hrunx w rfl).1 (hrunx w rfl).2 hin]
            simp only [add_lit]
            rw [hst]
            rfl
          · have := VRel.slice (ρ := upd ρ kk ⟨(ρ k).blk, off', (ρ k).size, (ρ k).esz⟩) (S := fun j => S j ∨ j = kk) kk 0 off' (sLen + n) (sLen + n) cap' (.inr rfl) (Nat.le_refl _) hin (by rw [upd_self]; intro _; rfl)
              (.inr (by rw [upd_self]; simp only [hcesz, hes]; exact hroomc))
            rw [upd_self] at this
            exact this
          · refine ⟨_, fr, rfl, ?_, by simpa using hcesz, ?_, ?_, ?_, fun _ => (hcfr rfl).imp id fun hq => Nat.le_trans hq (show (ρ k).shift + fz ≤ off' + (fz - off) by omega)⟩
            · simp; omega
            · simp; omega
            · have e2 : (((c.toList.take (off' + sLen * i.size + 0) ++ l' ++ c.toList.drop (off' + sLen * i.size + 0 + l'.length)).toArray).toList.drop off').take ((cs.drop off).take (sLen * i.size) ++ news).length
                  = (((c.toList.drop (ρ k).shift).take cs.length).drop off).take (sLen * i.size) ++ l' := by
                apply List.ext_getElem?
                intro j
                simp only [List.getElem?_take, List.getElem?_drop, List.getElem?_append, List.length_append, List.length_take, List.length_drop, Array.length_toList, Nat.add_zero]
                repeat' split
                all_goals first
                  | rfl
                  | (exfalso; omega)
                  | (congr 1; omega)
                  | exact List.getElem?_eq_none (by omega)
                  | exact (List.getElem?_eq_none (by omega)).symm
              rw [e2]
              exact ((hcrel.drop off).take _).append hl
            · intro v hv
              rcases List.mem_append.1 hv with hv | hv
              · exact honeold v hv
              · exact honen v hv
        · have hold : (Builtin.firstCells i.size sLen (.slice (some ⟨(ρ k).blk, off', none⟩) sLen cap')).run P w.drew = .ok old'.toArray w.drew := by
            simp only [Builtin.firstCells]
            rcases Nat.eq_zero_or_pos sLen with hz0 | hp
            · subst hz0
              have : old' = [] := List.eq_nil_of_length_eq_zero (by simpa using hol')
              subst this
              simp [loadCells, loadCellsFrom]
            · rw [hoff hp]
              exact run_loadCells_rel _ _ _ old' (fun j v hj => (cell_heap (w := w) (w2 := w.drew) rfl _).trans (holdc j v hj)) _ hol'
          obtain ⟨ρ', v', w', hrun, hv, hst⟩ := append_fresh h hk (ty := ty) h0 h1 hi hz hzs hes (some ⟨(ρ k).blk, off', none⟩) holdrel hl hollen hll honeold honen hrunx hold (by omega) hbytes hmax (fz - off)
          refine ⟨ρ', v', w', hrun, hv, hst.trans (StepS.sub hst.sim _ fun j o hj => ?_)⟩
          simp only [Eff.get] at hj
          by_cases e1 : j = kk
          · subst e1; rw [upd_self] at hj ⊢; exact hj
          · rw [upd_ne _ _ e1] at hj ⊢
            by_cases e2 : j = k
            · subst e2; rw [upd_self] at hj; cases hj
            · rw [upd_ne _ _ e2] at hj; exact hj
  · cases hs
    rename_i a
    split at hr
    · rename_i hn
      subst hn
      cases hr
      exact ⟨ρ, _, w, append_nothing h0 h1 hsize (some a) 0 0 x' (hl.nil_of (by simpa using hll)) (Nat.le_refl _) (hrunx w rfl), .sliceEmpty a, StepS.refl h⟩
    · rename_i hn
      split at hr <;> cases hr
      rename_i hb
      have := append_fresh h hk (ty := ty) h0 h1 hi hz hzs hes (some a) (sLen := 0) (sCap := 0) (n := n) (old := []) (old' := []) .nil hl (by simp) hll (by simp) honen hrunx (by simp [Builtin.firstCells, loadCells, loadCellsFrom]) (by omega) (by simpa using hb.1) (by simpa using hb.2) 0
      simpa [Eff.S, Eff.get] using this
  · cases hr
end
end Go.AL
end
/- The library of this session's own, part 8: reckoning, comparing, converting, copying, making, iterators. -/
section
namespace Go.AL
open Go

def pureOf : Sem Value → Option Value
  | .pure v => some v
  | _ => none
theorem pureOf_run {P : Program} {s : Sem Value} {v : Value} (h : pureOf s = some v) (w : World) : s.run P w = .ok v w := by
  cases s <;> simp only [pureOf] at h <;> cases h
  rfl

def pureF : Sem Value → Option Value
  | .pure v => if flat1 v = true then some v else none
  | _ => none
theorem pureF_spec {s : Sem Value} {v : Value} (h : pureF s = some v) : s = Sem.pure v ∧ flat1 v = true := by
  cases s <;> simp only [pureF] at h <;> try cases h
  split at h <;> cases h
  exact ⟨rfl, by assumption⟩
def aBin (op : BinOp) (x y : Value) : Option Value :=
  match x, y with
  | .int _ _, .int _ _ => pureF (binOp op 0 x y)
  | .string _, .string _ => pureF (binOp op 0 x y)
  | _, _ => none

section
variable {P : Program} {G : Nat} {ρ : Nat → BI} {S : Nat → Prop} {get : Nat → Option AObj} {w : World}

theorem binOp_type (op : BinOp) (t : TypeId) {x y v : Value} (h : aBin op x y = some v) : binOp op t x y = Sem.pure v ∧ flat1 v = true := by
  unfold aBin at h
  split at h
  · obtain ⟨h1, h2⟩ := pureF_spec h
    refine ⟨?_, h2⟩
    rw [← h1]
    unfold binOp
    cases op <;> rfl
  · obtain ⟨h1, h2⟩ := pureF_spec h
    refine ⟨?_, h2⟩
    rw [← h1]
    unfold binOp
    cases op <;> rfl
  · cases h
theorem eqGuard_data (op : BinOp) (t : TypeId) (a b : Operand) {x y v : Value} (h : aBin op x y = some v) (w : World) : (eqGuard op t a b x y).run P w = .ok () w := by
  unfold aBin at h
  split at h
  · cases op <;> rfl
  · cases op <;> rfl
  · cases h
theorem aBin_rel {op : BinOp} {t : TypeId} {a b : Operand} {x x' y y' v : Value} (hx : VRel ρ S x x') (hy : VRel ρ S y y') (h : aBin op x y = some v) (w : World) :
    (do eqGuard op t a b x' y'; binOp op t x' y' : Sem Value).run P w = .ok v w ∧ VRel ρ S v v := by
  have e : x' = x ∧ y' = y := by
    unfold aBin at h
    split at h
    · cases hx; cases hy; exact ⟨rfl, rfl⟩
    · cases hx; cases hy; exact ⟨rfl, rfl⟩
    · cases h
  rw [e.1, e.2]
  obtain ⟨h1, h2⟩ := binOp_type op t h
  refine ⟨?_, flat1_rel h2⟩
  simp only [Sem.run_bind, eqGuard_data op t a b h, Result.andThen_ok, h1]
  rfl

def aUn (op : UnOp) (x : Value) : Option Value :=
  match op, x with
  | .neg, .int k n => some (.int k (k.wrap (0 - n)))
  | .not, .bool b => some (.bool !b)
  | _, _ => none
theorem aUn_sound {op : UnOp} {x x' v : Value} (hx : VRel ρ S x x') (h : aUn op x = some v) (w : World) : (Op.unary op x').run P w = .ok v w ∧ VRel ρ S v v := by
  unfold aUn at h
  split at h <;> cases h <;> cases hx
  · exact ⟨rfl, .int _ _⟩
  · exact ⟨rfl, .bool _⟩

-- equal or not, of what is no number and no string
def constOp : Operand → Bool
  | .const _ => true
  | _ => false
/-- Which kind a type is, of those whose values may be held against nil (and bools). -/
def kindQ (P : Program) (t : TypeId) : Nat :=
  match P.underlying t with
  | some .bool => 1
  | some (.pointer _) => 2
  | some (.interface _) => 3
  | some (.slice _) => 4
  | some (.func _ _ _) => 5
  | _ => 0
theorem kindQ_spec {t : TypeId} : (kindQ P t = 1 → P.underlying t = some .bool) ∧ (kindQ P t = 2 → ∃ e, P.underlying t = some (.pointer e)) ∧ (kindQ P t = 3 → ∃ e, P.underlying t = some (.interface e)) ∧
    (kindQ P t = 4 → ∃ e, P.underlying t = some (.slice e)) ∧ (kindQ P t = 5 → ∃ a b c, P.underlying t = some (.func a b c)) := by
  unfold kindQ
  split <;> simp_all
def aEq (P : Program) (t : TypeId) (nilConst : Bool) (x y : Value) : Option Bool :=
  match x, y with
  | .bool a, .bool b => if kindQ P t = 1 then some (a == b) else none
  | .pointer none, .pointer b => if kindQ P t = 2 then some b.isNone else none
  | .pointer (some _), .pointer none => if kindQ P t = 2 then some false else none
  | .nilIface, .nilIface => if kindQ P t = 3 then (if nilConst = true then some true else none) else none
  | .nilIface, .iface _ _ => if kindQ P t = 3 then some false else none
  | .iface _ _, .nilIface => if kindQ P t = 3 then some false else none
  | .slice none _ _, .slice b _ _ => if kindQ P t = 4 then some b.isNone else none
  | .slice (some _) _ _, .slice none _ _ => if kindQ P t = 4 then some false else none
  | .nilFunc, .nilFunc => if kindQ P t = 5 then some true else none
  | .nilFunc, .func _ _ _ => if kindQ P t = 5 then some false else none
  | .func _ _ _, .nilFunc => if kindQ P t = 5 then some false else none
  | _, _ => none

theorem aEq_run {t : TypeId} {x x' y y' : Value} (a b : Operand) {r : Bool} (hx : VRel ρ S x x') (hy : VRel ρ S y y') (h : aEq P t (constOp a || constOp b) x y = some r) (w : World) :
    (eqGuard .eql t a b x' y').run P w = .ok () w ∧ (eqGuard .neq t a b x' y').run P w = .ok () w ∧ (Op.equal t x' y').run P w = .ok r w ∧
      binOp .eql t x' y' = (do pure (.bool (← Op.equal t x' y'))) ∧ binOp .neq t x' y' = (do pure (.bool (!(← Op.equal t x' y')))) := by
  unfold aEq at h
  have hd : Op.maxDepth = 9999 + 1 := rfl
  obtain ⟨k1, k2, k3, k4, k5⟩ := kindQ_spec (P := P) (t := t)
  have hc : (constOp a || constOp b) = true → ∀ w, (eqGuard .eql t a b .nilIface .nilIface).run P w = .ok () w ∧ (eqGuard .neq t a b .nilIface .nilIface).run P w = .ok () w := by
    intro hab w
    cases a <;> cases b <;> simp [constOp] at hab <;> exact ⟨rfl, rfl⟩
  split at h
  all_goals (try cases h)
  all_goals (split at h <;> try cases h)
  all_goals rename_i hk
  all_goals first
    | (have hu := k1 hk)
    | (have hu := k2 hk; obtain ⟨e, hu⟩ := hu)
    | (have hu := k3 hk; obtain ⟨e, hu⟩ := hu)
    | (have hu := k4 hk; obtain ⟨e, hu⟩ := hu)
    | (have hu := k5 hk; obtain ⟨e1, e2, e3, hu⟩ := hu)
  all_goals (try (split at h <;> cases h))
  all_goals (cases hx <;> cases hy)
  all_goals first
    | (refine ⟨rfl, rfl, ?_, rfl, rfl⟩
       show (Op.equalIn (9999 + 1) _ _ _).run P w = _
       rw [Op.equalIn]
       simp [run_underlying hu]; done)
    | (rename_i hn; refine ⟨(hc hn w).1, (hc hn w).2, ?_, rfl, rfl⟩
       show (Op.equalIn (9999 + 1) _ _ _).run P w = _
       rw [Op.equalIn]
       simp [run_underlying hu]; done)
end
end Go.AL
end
/- The library of this session's own, part 9: conversions, lengths, copying, making, iterators over strings, tuples. -/
section
namespace Go.AL
open Go

section
variable {P : Program} {G : Nat} {ρ : Nat → BI} {S : Nat → Prop} {get : Nat → Option AObj} {w : World}

def bytesOf : List Value → Option (List UInt8)
  | [] => some []
  | .int .u8 n :: r => (bytesOf r).map fun l => UInt8.ofNat n.toNat :: l
  | _ :: _ => none
theorem bytesOf_rel : ∀ {l l' : List Value} {b : List UInt8}, LRel ρ S l l' → bytesOf l = some b → bytesOf l' = some b
  | [], l', b, h, hb => by rw [h.nil_inv]; exact hb
  | v :: l, l', b, h, hb => by
    obtain ⟨v', t', rfl, hv, ht⟩ := h.cons_inv
    unfold bytesOf at hb
    split at hb
    · rename_i e; cases e
    · rename_i n r e
      cases e
      simp only [Option.map_eq_some_iff] at hb
      obtain ⟨b0, hb0, rfl⟩ := hb
      cases hv
      simp [bytesOf, bytesOf_rel ht hb0]
    · cases hb
theorem bytes_loop (f : Value → ByteArray → Sem (ForInStep ByteArray)) (hf : ∀ n s w, (f (.int .u8 n) s).run P w = .ok (.yield (s.push (UInt8.ofNat n.toNat))) w) :
    ∀ (l : List Value) (b : List UInt8) (s : ByteArray) (w : World), bytesOf l = some b → (forIn l s f).run P w = .ok ⟨s.data ++ b.toArray⟩ w
  | [], b, s, w, h => by simp only [bytesOf] at h; cases h; simp
  | v :: l, b, s, w, h => by
    unfold bytesOf at h
    split at h
    · rename_i e; cases e
    · rename_i n r e
      cases e
      simp only [Option.map_eq_some_iff] at h
      obtain ⟨b0, hb0, rfl⟩ := h
      simp only [List.forIn_cons, Sem.run_bind, hf, Result.andThen_ok]
      rw [bytes_loop f hf l b0 _ w hb0]
      congr 2
      apply Array.ext'
      simp [ByteArray.push]
    · cases h

def aConvert (P : Program) (src dst : TypeId) (get : Nat → Option AObj) (x : Value) : Option Value :=
  match x with
  | .int _ n =>
    match P.underlying src, P.underlying dst with
    | some _, some (.int k) => some (.int k (k.wrap n))
    | some _, some .string => some (.string (Utf8.encode n))
    | _, _ => none
  | .string s =>
    match P.underlying src, P.underlying dst with
    | some _, some .string => some (.string s)
    | _, _ => none
  | .slice _ _ _ =>
    match elemQ P src, P.underlying dst with
    | some (e, 1, _), some .string =>
      match P.underlying e, newsOf get 1 x with
      | some (.int .u8), some (_, l) => (bytesOf l).map fun b => .string ⟨b.toArray⟩
      | _, _ => none
    | _, _ => none
  | _ => none
theorem aConvert_sound (h : SimS P G ρ S get w) {src dst : TypeId} {x x' v : Value} (hx : VRel ρ S x x') (hr : aConvert P src dst get x = some v) : (convert src dst x').run P w = .ok v w ∧ VRel ρ S v v := by
  unfold aConvert at hr
  split at hr
  · cases hx
    split at hr <;> cases hr
    · rename_i k0 hs hd
      refine ⟨?_, .int _ _⟩
      simp only [convert, Sem.run_bind, run_underlying hs, run_underlying hd, Result.andThen_ok, Conv.intToInt, Sem.run_pure]
    · rename_i hs hd
      refine ⟨?_, .string _⟩
      simp only [convert, Sem.run_bind, run_underlying hs, run_underlying hd, Result.andThen_ok, Conv.intToString, Sem.run_pure]
  · cases hx
    split at hr <;> cases hr
    rename_i hs hd
    refine ⟨?_, .string _⟩
    simp only [convert, Sem.run_bind, run_underlying hs, run_underlying hd, Result.andThen_ok, Sem.run_pure]
  · split at hr <;> try cases hr
    rename_i e bytes hel hd
    split at hr <;> try cases hr
    rename_i n l he hn
    simp only [Option.map_eq_some_iff] at hr
    obtain ⟨b, hb, rfl⟩ := hr
    obtain ⟨hs, hsz⟩ := elemQ_size hel
    obtain ⟨l', hl, hll, _, hrun⟩ := newsOf_sound h hx hn
    have hb' := bytesOf_rel hl hb
    obtain ⟨h1, h2⟩ := hrun w rfl
    refine ⟨?_, .string _⟩
    have key : (Conv.bytesToString x').run P w = .ok (.string ⟨b.toArray⟩) w := by
      cases hx
      · simp only [Builtin.firstCells, Sem.run_pure] at h2
        have : l' = [] := by injection h2 with h2; simpa using h2.symm
        subst this
        simp only [bytesOf] at hb'
        cases hb'
        rfl
      · rename_i k off off' len cap cap' hS hl1 hc ho hx
        simp only [Builtin.lenOf, Sem.run_pure] at h1
        injection h1 with h1
        subst h1
        simp only [Builtin.firstCells, Nat.mul_one] at h2
        simp only [Conv.bytesToString, Sem.run_bind, h2, Result.andThen_ok]
        simp only [List.forIn_toArray]
        rw [bytes_loop (P := P) _ (fun n s w => rfl) l' b ByteArray.empty w hb']
        show Result.ok (Value.string ⟨(#[] : Array UInt8) ++ b.toArray⟩) w = _
        rw [Array.empty_append]
      · rename_i a
        simp only [Builtin.lenOf, Sem.run_pure] at h1
        injection h1 with h1
        subst h1
        simp only [Builtin.firstCells, Nat.zero_mul] at h2
        simp only [Conv.bytesToString, Sem.run_bind, h2, Result.andThen_ok]
        simp only [List.forIn_toArray]
        rw [bytes_loop (P := P) _ (fun n s w => rfl) l' b ByteArray.empty w hb']
        show Result.ok (Value.string ⟨(#[] : Array UInt8) ++ b.toArray⟩) w = _
        rw [Array.empty_append]
    cases hx <;> (simp only [convert, Sem.run_bind, run_underlying hs, run_underlying hd, run_underlying he, Result.andThen_ok]; exact key)
  · cases hr

def aLen (P : Program) (t : TypeId) (x : Value) : Option Value :=
  match x with
  | .string s => match P.underlying t with
    | some .string => some (.int .i64 s.size)
    | _ => none
  | .slice _ n _ => match P.underlying t with
    | some (.slice _) => some (.int .i64 n)
    | _ => none
  | _ => none
theorem aLen_sound {t ty : TypeId} {x x' v : Value} (hx : VRel ρ S x x') (hr : aLen P t x = some v) (w : World) : (Builtin.len_ #[t] ty #[x']).run P w = .ok v w ∧ VRel ρ S v v := by
  unfold aLen at hr
  split at hr
  · split at hr <;> cases hr
    rename_i hu
    cases hx
    exact ⟨by simp [Builtin.len_, run_underlying hu, goInt], .int _ _⟩
  · split at hr <;> cases hr
    rename_i hu
    refine ⟨?_, .int _ _⟩
    cases hx <;> simp [Builtin.len_, run_underlying hu, goInt]
  · cases hr

def aTwo (f : Value → Value → Sem Value) (x y : Value) : Option Value :=
  match x, y with
  | .int _ _, .int _ _ => pureF (f x y)
  | _, _ => none
theorem aTwo_sound {f : Value → Value → Sem Value} {x x' y y' v : Value} (hx : VRel ρ S x x') (hy : VRel ρ S y y') (hr : aTwo f x y = some v) (w : World) : (f x' y').run P w = .ok v w ∧ VRel ρ S v v := by
  unfold aTwo at hr
  split at hr
  · obtain ⟨h1, h2⟩ := pureF_spec hr
    cases hx; cases hy
    exact ⟨by rw [h1]; rfl, flat1_rel h2⟩
  · cases hr

def aExtract (x : Value) (i : Nat) : Option Value :=
  match x with
  | .tuple vs => vs.toList[i]?
  | _ => none
theorem aExtract_sound {x x' v : Value} {i : Nat} (hx : VRel ρ S x x') (hr : aExtract x i = some v) (w : World) : ∃ v', (Instr.extract x' i).run P w = .ok v' w ∧ VRel ρ S v v' := by
  unfold aExtract at hr
  split at hr <;> try cases hr
  obtain ⟨cs', rfl, hc⟩ := hx.tuple_iff
  obtain ⟨v', h1, h2⟩ := hc.get hr
  refine ⟨v', ?_, h2⟩
  have : cs'[i]? = some v' := by simpa using h1
  simp [Instr.extract, this]

def aIface (P : Program) (t : TypeId) (x : Value) : Option Value :=
  match P.underlying t with
  | some (.interface _) => none
  | some _ => some (.iface t x)
  | none => none
theorem aIface_sound {t : TypeId} {x x' v : Value} (hx : VRel ρ S x x') (hr : aIface P t x = some v) (w : World) : ∃ v', (Instr.makeInterface t x').run P w = .ok v' w ∧ VRel ρ S v v' := by
  unfold aIface at hr
  split at hr <;> cases hr
  rename_i d hd hu
  refine ⟨_, ?_, .iface t _ _ hx⟩
  simp only [Instr.makeInterface, Sem.run_bind, run_underlying hu, Result.andThen_ok]
  all_goals (cases d <;> first | rfl | (exfalso; exact hd _ rfl))

-- copy
def aCopy (P : Program) (t0 : TypeId) (get : Nat → Option AObj) (dst src : Value) : Option (Value × Eff) :=
  match elemQ P t0 with
  | some (_, size, _) =>
    match dst, newsOf get size src with
    | .slice none 0 0, some _ => some (.int .i64 0, .none)
    | .slice (some ⟨k, off, none⟩) dLen _, some (n, l) =>
      let m := Nat.min n dLen
      if m = 0 then some (.int .i64 0, .none)
      else (aWrite get k off (l.take (m * size))).map fun a => (.int .i64 m, .set k a)
    | _, _ => none
  | none => none
theorem aCopy_sound (h : SimS P G ρ S get w) {t0 t1 ty : TypeId} {dst dst' src src' v : Value} {e : Eff} (hd : VRel ρ S dst dst') (hs : VRel ρ S src src') (hr : aCopy P t0 get dst src = some (v, e)) (kk : Nat) :
    ∃ w', (Builtin.copy_ #[t0, t1] ty #[dst', src']).run P w = .ok v w' ∧ VRel ρ S v v ∧ e.S kk S = S ∧ StepS P G ρ S get w ρ S (e.get kk get) w' := by
  unfold aCopy at hr
  split at hr <;> try cases hr
  rename_i el size bytes hel
  obtain ⟨hu, hsz⟩ := elemQ_size hel
  split at hr <;> try cases hr
  · rename_i x hn
    obtain ⟨n, l⟩ := x
    obtain ⟨l', hl, hll, hone, hrun⟩ := newsOf_more h hs hn
    obtain ⟨h1, h2⟩ := hrun w rfl
    cases hd
    refine ⟨w, ?_, .int _ _, rfl, StepS.refl h⟩
    have h3 := h2 0 (Nat.zero_le _)
    simp only [Nat.zero_mul, List.take_zero] at h3
    simp [Builtin.copy_, run_underlying hu, h1, run_sizeOf hsz, h3, goInt]
  · rename_i k off dLen cap n l hn
    obtain ⟨l', hl, hll, hone, hrun⟩ := newsOf_more h hs hn
    obtain ⟨h1, h2⟩ := hrun w rfl
    obtain ⟨off', cap', rfl, hS, hlc, hcc, ho, hx⟩ := hd.slice_inv
    have h3 := h2 (n.min dLen) (Nat.min_le_left _ _)
    simp only at hr
    split at hr
    · rename_i hm
      cases hr
      refine ⟨w, ?_, .int _ _, rfl, StepS.refl h⟩
      have hm' : n.min dLen = 0 := hm
      rw [hm'] at h3
      simp only [Nat.zero_mul, List.take_zero] at h3
      simp [Builtin.copy_, run_underlying hu, h1, run_sizeOf hsz, hm', h3, goInt, storeCells]
    · rename_i hm
      simp only [Option.map_eq_some_iff] at hr
      obtain ⟨a, ha, hr⟩ := hr
      cases hr
      have hmle2 : n.min dLen ≤ dLen := Nat.min_le_right _ _
      obtain ⟨w', hst, hstep⟩ := aWrite_sound h (hl.take (n.min dLen * size)) ha
      refine ⟨w', ?_, .int _ _, rfl, hstep⟩
      rw [ho (by omega)]
      simp [Builtin.copy_, run_underlying hu, h1, run_sizeOf hsz, h3, goInt, hst]

-- 'unsafe.String', 'unsafe.SliceData'
/-- The bytes told as a string; in the block they are not written any more. -/
def aUStr (P : Program) (t : TypeId) (get : Nat → Option AObj) (p n : Value) : Option (Value × Eff) :=
  match p, n with
  | .pointer none, .int _ n => if n = 0 then some (.string .empty, .none) else none
  | .pointer (some ⟨k, off, none⟩), .int _ n =>
    if n = 0 then some (.string .empty, .none)
    else
      match P.underlying t, get k with
      | some (.pointer e'), some (.cells cs e fz false) =>
        if 0 < n ∧ n ≤ 9223372036854775807 ∧ e' = e ∧ P.cellsOf e = 1 ∧ off + n.toNat ≤ cs.length then
          (bytesOf ((cs.drop off).take n.toNat)).map fun b => (.string ⟨b.toArray⟩, .set k (.cells cs e (max fz (off + n.toNat)) false))
        else none
      | _, _ => none
  | _, _ => none
theorem liesAt_one {e : TypeId} (hc : P.cellsOf e = 1) (count off n : Nat) (hn : off + n ≤ count) : liesAt P P.depth e count off e n = true := by
  have hd : P.depth = (2 * (P.types.size + Made.depth) + 1) + 1 := rfl
  rw [hd]
  simp only [liesAt, Bool.or_eq_true]
  left
  rw [hd]
  simp [rowAt, hc, hn, sameLayout, Nat.mod_one]
theorem run_loadBytes_rel : ∀ (l : List Value) (b : List UInt8) (a : Addr) (acc : ByteArray) (w : World), bytesOf l = some b → (∀ j v, l[j]? = some v → w.cell? (a.add j) = some v) →
    (loadBytes a acc l.length).run P w = .ok ⟨acc.data ++ b.toArray⟩ w
  | [], b, a, acc, w, h, _ => by simp only [bytesOf] at h; cases h; simp [loadBytes]
  | v :: l, b, a, acc, w, h, hc => by
    unfold bytesOf at h
    split at h
    · rename_i e; cases e
    · rename_i n r e
      cases e
      simp only [Option.map_eq_some_iff] at h
      obtain ⟨b0, hb0, rfl⟩ := h
      have h0 : w.cell? a = some (.int .u8 n) := by
        have := hc 0 _ rfl
        simpa [Addr.add] using this
      have ih := run_loadBytes_rel l b0 (a.add 1) (acc.push (UInt8.ofNat n.toNat)) w hb0 (fun j y hy => by
        have := hc (j + 1) y (by simpa using hy)
        have e : (a.add 1).add j = a.add (j + 1) := by
          unfold Addr.add
          by_cases hj : j = 0
          · subst hj; simp
          · simp [hj]; omega
        rw [e]; exact this)
      simp only [List.length_cons, loadBytes, Sem.run_bind, run_load, h0, Result.andThen_ok]
      rw [show (n.toNat).toUInt8 = UInt8.ofNat n.toNat from rfl, ih]
      congr 1
      apply ByteArray.ext
      simp [ByteArray.push]
    · cases h
theorem aUStr_sound (h : SimS P G ρ S get w) {t t1 ty : TypeId} {p p' n n' v : Value} {e : Eff} (hp : VRel ρ S p p') (hn : VRel ρ S n n') (hr : aUStr P t get p n = some (v, e)) (kk : Nat) :
    ∃ w', (Builtin.unsafeString_ #[t, t1] ty #[p', n']).run P w = .ok v w' ∧ VRel ρ S v v ∧ e.S kk S = S ∧ StepS P G ρ S get w ρ S (e.get kk get) w' := by
  have hmax : IntKind.i64.max = 9223372036854775807 := rfl
  unfold aUStr at hr
  split at hr <;> try cases hr
  · rename_i q n
    cases hp; cases hn
    split at hr <;> cases hr
    rename_i hz; subst hz
    refine ⟨w, ?_, .string _, rfl, StepS.refl h⟩
    have hdef : Builtin.unsafeString_ #[t, t1] ty #[.pointer none, .int q 0] =
        (do
          let n ← asInt (.int q 0)
          if n < 0 then runtimePanic (.error "unsafe.String: len out of range")
          if n > IntKind.i64.max then unsupported (.unsafePointer "String: a length above the largest int")
          if n = 0 then pure (.string .empty)
          else runtimePanic (.error "unsafe.String: ptr is nil and len is not zero")) := rfl
    rw [hdef]
    simp [asInt, asIntOf, hmax]
  · rename_i k off q n
    cases hp; cases hn
    have hdef : Builtin.unsafeString_ #[t, t1] ty #[.pointer (some ⟨(ρ k).blk, (ρ k).shift + off, none⟩), .int q n] =
        (do
          let n ← asInt (.int q n)
          if n < 0 then runtimePanic (.error "unsafe.String: len out of range")
          if n > IntKind.i64.max then unsupported (.unsafePointer "String: a length above the largest int")
          if n = 0 then pure (.string .empty)
          else if ← variablesAt ⟨(ρ k).blk, (ρ k).shift + off, none⟩ (← elemOf t) n.toNat then do
            let s ← loadBytes ⟨(ρ k).blk, (ρ k).shift + off, none⟩ .empty n.toNat
            freeze ⟨(ρ k).blk, (ρ k).shift + off, none⟩ n.toNat
            pure (.string s)
          else unsupported (.unsafePointer "String: not so many bytes at ptr")) := rfl
    split at hr
    · rename_i hz; subst hz
      cases hr
      refine ⟨w, ?_, .string _, rfl, StepS.refl h⟩
      rw [hdef]
      simp [asInt, asIntOf, hmax]
    · rename_i hz
      split at hr <;> try cases hr
      rename_i e' cs el fz hu hk
      split at hr <;> try cases hr
      rename_i hc
      obtain ⟨c1, c2, rfl, c3, c4⟩ := hc
      simp only [Option.map_eq_some_iff] at hr
      obtain ⟨b, hb, hr⟩ := hr
      cases hr
      obtain ⟨l', hll, hrel, hcell⟩ := h.cells hk off n.toNat c4
      have hb' := bytesOf_rel hrel hb
      obtain ⟨o, h1, c, fr, rfl, hsz, hes, hcl, hcr, hone, hfr⟩ := h.objs k _ hk
      have hlt := h.lt hk
      have hload := run_loadBytes_rel (P := P) l' b ⟨(ρ k).blk, (ρ k).shift + off, none⟩ .empty w hb' (fun j v hj => by rw [add_lit]; exact hcell j v hj)
      rw [hll] at hload
      have hsh : w.shape? (ρ k).blk = some (e', c.size) := by simp [World.shape?, h1]
      have hlies := liesAt_one (P := P) c3 (c.size / P.cellsOf e') ((ρ k).shift + off) n.toNat (by rw [c3, Nat.div_one]; omega)
      have hfz : (w.freeze ⟨(ρ k).blk, (ρ k).shift + off, none⟩ n.toNat) = put w (ρ k).blk (.cells c e' (if fr.1 == fr.2 then ((ρ k).shift + off, (ρ k).shift + off + n.toNat) else (min fr.1 ((ρ k).shift + off), max fr.2 ((ρ k).shift + off + n.toNat)))) := by
        have hn0 : ¬ n.toNat = 0 := by omega
        simp only [World.freeze, hn0, if_false, put]
        congr 1
        apply Array.ext'
        apply List.ext_getElem?
        intro j
        simp only [Array.getElem?_toList, Array.getElem?_modify, Array.getElem?_setIfInBounds]
        split
        · rename_i e; subst e
          obtain ⟨_, h1'⟩ := Array.getElem?_eq_some_iff.1 h1
          simp [h1', hlt]
        · rfl
      refine ⟨w.freeze ⟨(ρ k).blk, (ρ k).shift + off, none⟩ n.toNat, ?_, .string _, rfl, ?_⟩
      · rw [hdef]
        have g1 : ¬ n < 0 := by omega
        have g2 : ¬ 9223372036854775807 < n := by omega
        simp [asInt, asIntOf, hmax, g1, g2, hz, variablesAt, hsh, elemOf, run_underlying hu, hlies, hload]
      · rw [hfz]
        refine StepS.modify h k _ hk rfl _ _ ⟨c, _, rfl, hsz, hes, hcl, hcr, hone, fun _ => ?_⟩
        have := hfr rfl
        split
        · right; simp only; omega
        · rename_i hne
          simp only [beq_iff_eq] at hne
          right; simp only; omega
/-- The address of a row's front. -/
def aUData (x : Value) : Option Value :=
  match x with
  | .slice none 0 0 => some (.pointer none)
  | .slice (some ⟨k, off, none⟩) _ c => if c = 0 then none else some (.pointer (some ⟨k, off, none⟩))
  | _ => none
theorem aUData_sound {x x' v : Value} (hx : VRel ρ S x x') (hr : aUData x = some v) (ts : Array TypeId) (ty : TypeId) (w : World) : ∃ v', (Builtin.unsafeSliceData_ ts ty #[x']).run P w = .ok v' w ∧ VRel ρ S v v' := by
  unfold aUData at hr
  split at hr <;> try cases hr
  · cases hx; exact ⟨_, rfl, .ptrNil⟩
  · split at hr <;> cases hr
    rename_i k off n c hc
    obtain ⟨off', cap', rfl, hS, hlc, hcc, ho, hx⟩ := hx.slice_inv
    obtain ⟨m, rfl⟩ : ∃ m, cap' = m + 1 := ⟨cap' - 1, by omega⟩
    refine ⟨_, rfl, ?_⟩
    rw [ho (by omega)]
    exact .ptr k off hS

-- make
def aMake (P : Program) (t : TypeId) (l c : Value) : Option (TypeId × Nat × Nat × List Value) :=
  match l, c with
  | .int _ l, .int _ c =>
    match elemQ P t with
    | some (e, size, bytes) =>
      match zeroF P e with
      | some zero => if 0 ≤ l ∧ l ≤ c ∧ c ≤ 140737488355328 ∧ c.toNat * bytes ≤ 281474976710656 ∧ zero.length = size ∧ 0 < size ∧ P.cellsOf e = size then some (e, l.toNat, c.toNat, zerosL zero c.toNat) else none
      | none => none
    | none => none
  | _, _ => none
theorem wrap_small {n : Int} (h0 : 0 ≤ n) (h : n ≤ 140737488355328) : IntKind.i64.wrap n = n := by
  simp only [IntKind.wrap, IntKind.bits, IntKind.signed]
  have : n % (2 ^ 64 : Int) = n := Int.emod_eq_of_lt h0 (by omega)
  simp only [this]
  split
  · rename_i hc; simp only [Bool.true_and, decide_eq_true_eq] at hc; omega
  · rfl
theorem aMake_sound (h : SimS P G ρ S get w) {kk : Nat} (hk : ¬ S kk) {t : TypeId} {l l' c c' : Value} (hl : VRel ρ S l l') (hc : VRel ρ S c c') {e : TypeId} {ln cn : Nat} {cs : List Value}
    (hr : aMake P t l c = some (e, ln, cn, cs)) {a : AObj} (ha : aNew e cs = some a) :
    ∃ b : BI, b.blk = w.heap.size ∧ b.shift = 0 ∧ ∃ w' v', (Instr.makeSlice t l' c').run P w = .ok v' w' ∧
      StepS P G ρ S get w (upd ρ kk b) (fun j => S j ∨ j = kk) (upd get kk (some a)) w' ∧ VRel (upd ρ kk b) (fun j => S j ∨ j = kk) (.slice (some ⟨kk, 0, none⟩) ln cn) v' := by
  unfold aMake at hr
  split at hr <;> try cases hr
  rename_i k1 lz k2 cz
  split at hr <;> try cases hr
  rename_i e0 size bytes hel
  split at hr <;> try cases hr
  rename_i zero hz
  split at hr <;> cases hr
  rename_i hcnd
  obtain ⟨b1, b2, b3, b4, b5, b6, b7⟩ := hcnd
  cases hl; cases hc
  obtain ⟨i, hu, hi, his, hib⟩ := elemQ_spec hel
  obtain ⟨hz1, hz2⟩ := zeroF_zeroQ hz
  obtain ⟨z, hrun, hzz⟩ := run_zeroValue hz1 w
  obtain ⟨b, hb, hs, hbs, hbe, hst⟩ := aNew_sound (P := P) h hk (flatL_rel (zerosL_flat hz2 cz.toNat)) ha
  refine ⟨b, hb, hs, _, .slice (some ⟨b.blk, 0, none⟩) lz.toNat cz.toNat, ?_, hst, ?_⟩
  · have hsz : sizeQ P e = some size := by simp [sizeQ, hi, his]
    have hzs : z.cells.size = size := by rw [← Array.length_toList, hzz, b5]
    have hzr : (Array.range (cz.toNat * size)).map (z.cells[· % z.cells.size]!) = (zerosL zero cz.toNat).toArray := by
      rw [← hzs, zeros_range _ _ (by omega), hzz]
    have w1 := wrap_small b1 (by omega : lz ≤ 140737488355328)
    have w2 := wrap_small (by omega : 0 ≤ cz) b3
    have hbig : ¬ ((bytes : Int) * cz > 2 ^ 48) := by
      have : (bytes : Int) * cz = ((cz.toNat * bytes : Nat) : Int) := by
        rw [Int.natCast_mul, Int.toNat_of_nonneg (by omega), Int.mul_comm]
      rw [this]; omega
    have hcond : (decide (cz < 0) || decide ((bytes : Int) * cz > 2 ^ 48) || decide (lz < 0) || decide (lz > cz)) = false := by
      simp only [Bool.or_eq_false_iff, decide_eq_false_iff_not]
      exact ⟨⟨⟨by omega, hbig⟩, by omega⟩, by omega⟩
    simp only [Instr.makeSlice, Sem.run_bind, run_underlying hu, Result.andThen_ok, asInt, asIntOf, Sem.run_pure, run_typeInfo hi, hib, w1, w2, hcond, Bool.false_eq_true, if_false, run_askRoom, run_sizeOf hsz]
    by_cases h0 : cz.toNat * size = 0
    · have hc0 : cz.toNat = 0 := by rcases Nat.mul_eq_zero.1 h0 with h | h <;> omega
      simp only [hc0, Nat.zero_mul, if_true, Sem.run_pure, Result.andThen_ok, newRow, Sem.run_bind, run_newObj, zerosL, hb]
      simp [show (Array.range 0) = #[] from by apply Array.ext'; simp]
    · simp only [h0, if_false, Sem.run_bind, hrun, Result.andThen_ok, Sem.run_pure, hzr, newRow, run_newObj, hb]
      rfl
  · have := VRel.slice (ρ := upd ρ kk b) (S := fun j => S j ∨ j = kk) kk 0 0 lz.toNat cz.toNat cz.toNat (.inr rfl) (by omega) (Nat.le_refl _) (by rw [upd_self, hs]; intro; rfl) (.inl rfl)
    rw [upd_self] at this
    exact this

-- iterators over strings
theorem aRange_sound (h : SimS P G ρ S get w) {kk : Nat} (hk : ¬ S kk) {t : TypeId} {s : ByteArray} (hu : P.underlying t = some .string) :
    ∃ b : BI, b.blk = w.heap.size ∧ b.shift = 0 ∧ ∃ w', (Instr.range t (.string s)).run P w = .ok (.pointer (some ⟨b.blk, b.shift + 0, none⟩)) w' ∧
      StepS P G ρ S get w (upd ρ kk b) (fun j => S j ∨ j = kk) (upd get kk (some (.iter s 0))) w' := by
  refine ⟨⟨w.heap.size, 0, 0, 0⟩, rfl, rfl, _, ?_, StepS.alloc h kk hk (.iter s 0) (.stringIter s 0) _ rfl ⟨rfl, rfl⟩⟩
  simp only [Instr.range, Sem.run_bind, run_underlying hu, Result.andThen_ok, Sem.run_pure, run_newObj]
  rfl
def aNext (get : Nat → Option AObj) (it : Value) : Option (Value × Eff) :=
  match it with
  | .pointer (some ⟨k, 0, none⟩) =>
    match get k with
    | some (.iter s pos) =>
      if pos < s.size then some (.tuple #[.bool true, .int .i64 pos, .int .i32 (Utf8.decode s pos).1], .set k (.iter s (pos + (Utf8.decode s pos).2)))
      else some (.tuple #[.bool false], .none)
    | _ => none
  | _ => none
theorem aNext_sound (h : SimS P G ρ S get w) {it it' v : Value} {e : Eff} (hi : VRel ρ S it it') (hr : aNext get it = some (v, e)) (kk : Nat) (ty : TypeId) :
    ∃ w', (Instr.next it' true ty).run P w = .ok v w' ∧ VRel ρ S v v ∧ e.S kk S = S ∧ StepS P G ρ S get w ρ S (e.get kk get) w' := by
  unfold aNext at hr
  split at hr <;> try cases hr
  rename_i k
  split at hr <;> try cases hr
  rename_i s pos hk
  obtain ⟨o, h1, rfl, h3⟩ := h.objs k _ hk
  cases hi
  rename_i hS
  have hg : (getObj (ρ k).blk).run P w = .ok (.stringIter s pos) w := by simp [getObj, Sem.run, h1]
  split at hr
  · rename_i hp
    cases hr
    refine ⟨put w (ρ k).blk (.stringIter s (pos + (Utf8.decode s pos).2)), ?_, flatV_rel (by simp [flatV, flat2, flat1]), rfl, StepS.modify h k _ hk rfl _ _ ⟨rfl, h3⟩⟩
    have hs : (setObj (ρ k).blk (.stringIter s (pos + (Utf8.decode s pos).2))).run P w = .ok () (put w (ρ k).blk (.stringIter s (pos + (Utf8.decode s pos).2))) := by
      simp [setObj, Sem.run, h1, put]
    simp only [Instr.next, h3, Nat.zero_add, Sem.run_bind, hg, Result.andThen_ok, hp, if_true]
    rw [show Utf8.decode s pos = ((Utf8.decode s pos).1, (Utf8.decode s pos).2) from rfl]
    simp only [hs, Result.andThen_ok, Sem.run_pure, goInt]
  · rename_i hp
    cases hr
    refine ⟨w, ?_, flatV_rel (by simp [flatV, flat2, flat1]), rfl, StepS.refl h⟩
    simp only [Instr.next, h3, Nat.zero_add, Sem.run_bind, hg, Result.andThen_ok, hp, if_false, Sem.run_pure]
end
end Go.AL
end
