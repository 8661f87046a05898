/-
  A help text: an abstract memory, and rules that run a loaded function over it (parts 24 to 24). No statement of the seat stands here.
-/
import Derived.Test.YtpljlblmagodlaaDoorA5
import Derived.Below
import Derived.OpenShut
import Derived.ChangeArms
import Derived.FnData
import GoSem.ClaimJoined
set_option linter.unusedVariables false
set_option linter.unusedSimpArgs false
/- The library of this session's own, part 24: a call's first memory, and what a walk over it gives back: what the rows ask for. -/
section
namespace Go.AL
open Go

/-- The law answers true, and what was there is as it was. -/
theorem ACalls.below {P : Program} {G : Nat} {f : FuncId} {args : List Value} {M : Mem} {b : Bool} (ha : ACalls P G f args M (Says (.bool b) M)) {ρ : Nat → BI} {w : World} {cargs : Array Value} (hs : Sim P G ρ M w)
    (hl : LRel ρ (fun k => k < M.next) args cargs.toList) (hro : ∀ k o, M.get k = some o → o.ro = true) : Calls P f cargs w fun e w' => e = .returned (.bool b) ∧ RowKit.Below w.heap.size w w' := by
  refine (ha ρ w cargs hs hl).mono ?_
  rintro e w' ⟨ρ', v, v', M', rfl, ⟨rfl, _⟩, hv, hst⟩
  refine ⟨by cases hv; rfl, hst.os, hst.tape, hst.output, hst.size, fun k hk => hst.frame k hk fun j o hj ho => ?_⟩
  rw [hro j o hj] at ho
  cases ho

/-- A value that is the same in both memories. -/
def plainV : Value → Bool
  | .int _ _ => true
  | .string _ => true
  | .bool _ => true
  | _ => false
theorem plainV.rel {ρ : Nat → BI} {S : Nat → Prop} : ∀ {v : Value}, plainV v = true → VRel ρ S v v
  | .int k n, _ => .int k n
  | .string s, _ => .string s
  | .bool b, _ => .bool b
theorem plainV.one : ∀ {v : Value}, plainV v = true → v.oneCell' = true
  | .int _ _, _ => rfl
  | .string _, _ => rfl
  | .bool _, _ => rfl
theorem plainL.rel {ρ : Nat → BI} {S : Nat → Prop} {l : List Value} (h : l.all plainV = true) : LRel ρ S l l :=
  ⟨rfl, fun _ h1 _ => plainV.rel (List.all_eq_true.1 h _ (List.getElem_mem h1))⟩

/-- What lies in a block of the heap. -/
def eOf (w : World) (b : Nat) : TypeId := match w.heap[b]? with | some (.cells _ e _) => e | _ => 0
def nOf (w : World) (b : Nat) : Nat := match w.heap[b]? with | some (.cells c _ _) => c.size | _ => 0
/-- The cells of a block, from a place on, are these. -/
def Lies (w : World) (b off : Nat) (cs : List Value) : Prop := ∃ c e fr, w.heap[b]? = some (.cells c e fr) ∧ off + cs.length ≤ c.size ∧ (c.toList.drop off).take cs.length = cs
/-- The first memory: tables in the globals, and one row that came in (its key is the number of globals). -/
def memT (w : World) (G : Nat) (tabs : List (Nat × List Value)) (bx : Nat) (x : Option (List Value)) : Mem :=
  ⟨fun k => if k < G then (tabs.lookup k).map fun cs => .cells cs (eOf w k) 0 true else if k = G then x.map fun cs => .cells cs (eOf w bx) 0 true else none, G + 1⟩
def rhoT (P : Program) (w : World) (G bx off : Nat) : Nat → BI := fun k => if k < G then ⟨k, 0, nOf w k, P.cellsOf (eOf w k)⟩ else ⟨bx, off, nOf w bx, P.cellsOf (eOf w bx)⟩
theorem Lies.rel {P : Program} {ρ : Nat → BI} {S : Nat → Prop} {w : World} {b off : Nat} {cs : List Value} (h : Lies w b off cs) (hp : cs.all plainV = true) :
    ∃ o, w.heap[b]? = some o ∧ ORel P ρ S ⟨b, off, nOf w b, P.cellsOf (eOf w b)⟩ (.cells cs (eOf w b) 0 true) o := by
  obtain ⟨c, e, fr, h1, h2, h3⟩ := h
  have he : eOf w b = e := by simp [eOf, h1]
  have hn : nOf w b = c.size := by simp [nOf, h1]
  refine ⟨_, h1, c, fr, by rw [he], hn.symm, rfl, h2, ?_, fun v hv => plainV.one (List.all_eq_true.1 hp v hv), fun h => by cases h⟩
  rw [h3]
  exact plainL.rel hp
theorem simT {P : Program} {w : World} {G : Nat} {tabs : List (Nat × List Value)} {bx off : Nat} {x : Option (List Value)} (ht : ∀ g cs, g < G → tabs.lookup g = some cs → Lies w g 0 cs ∧ cs.all plainV = true)
    (hx : ∀ cs, x = some cs → Lies w bx off cs ∧ cs.all plainV = true) (hd : ∀ cs, x = some cs → ∀ g cs', g < G → tabs.lookup g = some cs' → g ≠ bx) : Sim P G (rhoT P w G bx off) (memT w G tabs bx x) w where
  glob := fun g hg => by simp [rhoT, hg]
  globs := fun g hg => by show g < G + 1; omega
  live := fun k o h => by
    show k < G + 1
    simp only [memT] at h
    split at h
    · omega
    · split at h
      · omega
      · cases h
  inj := fun k k' o o' h h' e => by
    simp only [memT] at h h'
    simp only [rhoT] at e
    by_cases h1 : k < G
    · by_cases h2 : k' < G
      · simpa [h1, h2] using e
      · rw [if_pos h1] at h e
        rw [if_neg h2] at h' e
        split at h'
        · obtain ⟨cs, hc, _⟩ := Option.map_eq_some_iff.1 h'
          obtain ⟨cs', hc', _⟩ := Option.map_eq_some_iff.1 h
          exact absurd e (hd cs hc k cs' h1 hc')
        · cases h'
    · by_cases h2 : k' < G
      · rw [if_pos h2] at h' e
        rw [if_neg h1] at h e
        split at h
        · obtain ⟨cs, hc, _⟩ := Option.map_eq_some_iff.1 h
          obtain ⟨cs', hc', _⟩ := Option.map_eq_some_iff.1 h'
          exact absurd e.symm (hd cs hc k' cs' h2 hc')
        · cases h
      · rw [if_neg h1] at h
        rw [if_neg h2] at h'
        split at h
        · split at h'
          · omega
          · cases h'
        · cases h
  objs := fun k a h => by
    simp only [memT] at h
    by_cases h1 : k < G
    · rw [if_pos h1] at h
      obtain ⟨cs, hc, rfl⟩ := Option.map_eq_some_iff.1 h
      obtain ⟨h2, h3⟩ := ht k cs h1 hc
      simp only [rhoT, if_pos h1]
      exact h2.rel h3
    · rw [if_neg h1] at h
      split at h
      · obtain ⟨cs, hc, rfl⟩ := Option.map_eq_some_iff.1 h
        obtain ⟨h2, h3⟩ := hx cs hc
        simp only [rhoT, if_neg h1]
        exact h2.rel h3
      · cases h
theorem memT.ro {w : World} {G : Nat} {tabs : List (Nat × List Value)} {bx : Nat} {x : Option (List Value)} (k : Nat) (o : AObj) (h : (memT w G tabs bx x).get k = some o) : o.ro = true := by
  simp only [memT] at h
  split at h
  · obtain ⟨cs, _, rfl⟩ := Option.map_eq_some_iff.1 h; rfl
  · split at h
    · obtain ⟨cs, _, rfl⟩ := Option.map_eq_some_iff.1 h; rfl
    · cases h
theorem memT.tab {w : World} {G : Nat} {tabs : List (Nat × List Value)} {bx : Nat} {x : Option (List Value)} {g : Nat} {cs : List Value} (hg : g < G) (h : tabs.lookup g = some cs) : (memT w G tabs bx x).get g = some (.cells cs (eOf w g) 0 true) := by
  simp [memT, hg, h]
theorem memT.arg {w : World} {G : Nat} {tabs : List (Nat × List Value)} {bx : Nat} {cs : List Value} : (memT w G tabs bx (some cs)).get G = some (.cells cs (eOf w bx) 0 true) := by
  simp [memT]

/-- Cells that read one by one lie in one block. -/
theorem Lies.of_cells {w : World} {a : Addr} {cs : List Value} (hs : a.spot = none) (h0 : 0 < cs.length) (h : ∀ i (hi : i < cs.length), w.cell? (a.add i) = some cs[i]) : Lies w a.block a.off cs := by
  have hadd : ∀ i, a.add i = ⟨a.block, a.off + i, none⟩ := fun i => by
    obtain ⟨b, o, sp⟩ := a
    cases hs
    unfold Addr.add
    split
    · next hz => subst hz; rfl
    · rfl
  simp only [hadd, World.cell?] at h
  cases hb : w.heap[a.block]? with
  | none => have := h 0 h0; rw [hb] at this; cases this
  | some o =>
    rw [hb] at h
    cases o with
    | cells c e fr =>
      have hc : ∀ i (hi : i < cs.length), c[a.off + i]? = some cs[i] := fun i hi => h i hi
      have hlast := hc (cs.length - 1) (by omega)
      have hlen := (Array.getElem?_eq_some_iff.1 hlast).1
      refine ⟨c, e, fr, hb, by omega, ?_⟩
      refine List.ext_getElem? fun i => ?_
      by_cases hi : i < cs.length
      · rw [List.getElem?_take_of_lt hi, List.getElem?_drop, Array.getElem?_toList, hc i hi, List.getElem?_eq_getElem hi]
      · rw [List.getElem?_eq_none (by simp; omega), List.getElem?_eq_none (by omega)]
    | _ => have := h 0 h0; cases this

/-! Tables of plain numbers, as the rows list them. -/
theorem chunks {α : Type} (m : Nat) (f : α → List Value) (hf : ∀ p, (f p).length = m) : ∀ (ps : List α) (cs : List Value), cs.length = ps.length * m → (∀ i (h : i < ps.length), (cs.drop (i * m)).take m = f ps[i]) → cs = ps.flatMap f
  | [], cs, h, _ => by simpa using h
  | p :: r, cs, h, hc => by
    have h0 := hc 0 (by simp)
    simp only [Nat.zero_mul, List.drop_zero, List.getElem_cons_zero] at h0
    rw [List.length_cons, Nat.succ_mul] at h
    rw [List.flatMap_cons, ← h0, ← chunks m f hf r (cs.drop m) (by rw [List.length_drop]; omega) fun i hi => ?_, List.take_append_drop]
    have := hc (i + 1) (by simpa using hi)
    rw [List.drop_drop]
    simpa [Nat.succ_mul, Nat.add_comm] using this

def isIntB (P : Program) (t : TypeId) (k : IntKind) : Bool := match P.underlying t with | some (.int k') => decide (k' = k) | _ => false
theorem isIntB.eq {P : Program} {t : TypeId} {k : IntKind} (h : isIntB P t k = true) : P.underlying t = some (.int k) := by
  unfold isIntB at h
  split at h
  · next k' e => rw [e, of_decide_eq_true h]
  · cases h
def intsB (P : Program) (t : TypeId) (k : IntKind) (n : Nat) : Bool :=
  match P.underlying t with
  | some (.array m e) => m == n && (P.cellsOf t == n && (P.cellsOf e == 1 && isIntB P e k))
  | _ => false
def pairsB (P : Program) (t : TypeId) (k : IntKind) (n : Nat) : Bool :=
  match P.underlying t with
  | some (.array m e) => m == n && (P.cellsOf t == n * 2 && (P.cellsOf e == 2 && match P.underlying e with
    | some (.struct fs) => match fs[0]?, fs[1]? with
      | some a, some b => fs.size == 2 && (a.offset == 0 && (b.offset == 1 && (P.cellsOf a.type == 1 && (P.cellsOf b.type == 1 && (isIntB P a.type k && isIntB P b.type k)))))
      | _, _ => false
    | _ => false))
  | _ => false

section
variable {H : Type} {enc : TypeId × Value → H} {P : Program} {w : World} {base : Nat} {spare : Nat → Bool} {held : Bool} {fuel : Nat} {t : TypeId} {cs : List Value} {p : List MemPlace} {k : IntKind}
theorem flat1_map {α : Type} (f : α → Value) : ∀ zs : List α, (zs.flatMap fun z => [f z]) = zs.map f
  | [] => rfl
  | a :: r => by rw [List.flatMap_cons, List.map_cons, flat1_map f r]; rfl
theorem ints_cells (zs : List Int) (hq : intsB P t k zs.length = true) (h : DataW.trod enc P w base spare held fuel t cs = some (.agg (zs.map fun z => .lit (.int k z)), p)) : cs = zs.map fun z => .int k z := by
  unfold intsB at hq
  split at hq
  · next m e hu =>
    simp only [Bool.and_eq_true, beq_iff_eq] at hq
    obtain ⟨rfl, hc, he, hi⟩ := hq
    obtain ⟨xs, m, _, ex, hlen, hl, hel⟩ := DataW.trod_array hu h
    have e3 : xs.map (·.1) = zs.map fun z => .lit (.int k z) := (DataW.agg.inj (Prod.mk.inj ex).1).symm
    have := chunks 1 (fun z => [Value.int k z]) (fun _ => rfl) zs cs (by omega) fun i hi' => ?_
    · rw [this, flat1_map]
    · have hE := hel i hi'
      rw [he, List.getElem?_eq_getElem (by omega)] at hE
      obtain ⟨z, e1, e2, _⟩ := DataW.trod_int (isIntB.eq hi) hE
      have e4 : (xs.map (·.1))[i]? = (zs.map fun z => (DataW.lit (.int k z) : DataW H))[i]? := by rw [e3]
      rw [List.getElem?_map, List.getElem?_map, List.getElem?_eq_getElem (by omega : i < xs.length), List.getElem?_eq_getElem hi', e2] at e4
      simp only [Option.map_some, Option.some.injEq, DataW.lit.injEq, Lit.int.injEq, true_and] at e4
      rw [e1, e4]
  · cases hq
theorem pairs_cells (zs : List (Int × Int)) (hq : pairsB P t k zs.length = true) (h : DataW.trod enc P w base spare held fuel t cs = some (.agg (zs.map fun z => .agg [.lit (.int k z.1), .lit (.int k z.2)]), p)) : cs = zs.flatMap fun z => [.int k z.1, .int k z.2] := by
  unfold pairsB at hq
  split at hq
  · next m e hu =>
    simp only [Bool.and_eq_true, beq_iff_eq] at hq
    obtain ⟨rfl, hc, he, hq⟩ := hq
    split at hq
    · next fs hs =>
      split at hq
      · next a b ha hb =>
        simp only [Bool.and_eq_true, beq_iff_eq] at hq
        obtain ⟨hz, oa, ob, ca, cb, ia, ib⟩ := hq
        obtain ⟨xs, m, _, ex, hlen, hl, hel⟩ := DataW.trod_array hu h
        have e3 : xs.map (·.1) = zs.map fun z => .agg [.lit (.int k z.1), .lit (.int k z.2)] := (DataW.agg.inj (Prod.mk.inj ex).1).symm
        refine chunks 2 (fun z : Int × Int => [Value.int k z.1, .int k z.2]) (fun _ => rfl) zs cs (by omega) fun i hi' => ?_
        have hE := hel i hi'
        rw [he, List.getElem?_eq_getElem (by omega)] at hE
        obtain ⟨ys, m2, _, ey, hlen2, hl2, hel2⟩ := DataW.trod_struct hs hE
        have e4 : (xs.map (·.1))[i]? = (zs.map fun z => (DataW.agg [.lit (.int k z.1), .lit (.int k z.2)] : DataW H))[i]? := by rw [e3]
        rw [List.getElem?_map, List.getElem?_map, List.getElem?_eq_getElem (by omega : i < xs.length), List.getElem?_eq_getElem hi', ey] at e4
        simp only [Option.map_some, Option.some.injEq, DataW.agg.injEq] at e4
        have f0 := hel2 0 a ha
        have f1 := hel2 1 b hb
        rw [oa, ca, List.getElem?_eq_getElem (by omega)] at f0
        rw [ob, cb, List.getElem?_eq_getElem (by omega)] at f1
        obtain ⟨z0, g1, g2, _⟩ := DataW.trod_int (isIntB.eq ia) f0
        obtain ⟨z1, g3, g4, _⟩ := DataW.trod_int (isIntB.eq ib) f1
        have e5 : ys = [(.lit (.int k z0), []), (.lit (.int k z1), [])] := by
          refine List.ext_getElem (by rw [hl2, hz]; rfl) fun j h1 h2 => ?_
          have : j = 0 ∨ j = 1 := by simp at h2; omega
          rcases this with rfl | rfl
          · exact g2
          · exact g4
        rw [e5] at e4
        simp only [List.map_cons, List.map_nil, List.cons.injEq, DataW.lit.injEq, Lit.int.injEq, true_and, and_true] at e4
        generalize (cs.drop (i * 2)).take 2 = dd at *
        rw [e4.1] at g1
        rw [e4.2] at g3
        rw [he] at hlen2
        match dd, hlen2 with
        | [x, y], _ =>
          simp only [List.drop_zero, List.take_succ_cons, List.take_zero, List.cons.injEq, and_true, List.drop_succ_cons] at g1 g3
          rw [g1, g3]
      · cases hq
    · cases hq
  · cases hq
end

/-- A listed variable's reading. -/
theorem laid_get {P : Program} {w : World} : ∀ {l : List (String × DataW Unit)} {ps : List MemPlace}, DataW.LaidVars P w l ps → ∀ {n d}, (n, d) ∈ l →
    ∃ g t cs fuel p e fr, P.globalNamed n = some g ∧ (P.globals[g]?).map (·.type) = some t ∧ w.heap[g]? = some (.cells cs e fr) ∧ DataW.trod (fun _ => ()) P w 0 (fun _ => true) false fuel t cs.toList = some (d, p)
  | [], _, _, _, _, hm => by cases hm
  | (n', d') :: r, ps, h, n, d, hm => by
    obtain ⟨g, t, cs, fuel, p, q, hg, ht, hv, hd, hr, _⟩ := h
    rcases List.mem_cons.1 hm with e | hm
    · obtain ⟨rfl, rfl⟩ := Prod.mk.inj e
      have hv' := hv
      simp only [World.var?, hg, Option.bind_some] at hv'
      split at hv'
      · next c e fr hh => exact ⟨g, t, cs, fuel, p, e, fr, hg, ht, by rw [hh, Option.some.inj hv'], hd⟩
      · cases hv'
    · exact laid_get hr hm
/-- All the cells of a block. -/
def Lay (w : World) (g : Nat) (cs : List Value) : Prop := ∃ c e fr, w.heap[g]? = some (.cells c e fr) ∧ c.toList = cs
theorem Lay.lies {w : World} {g : Nat} {cs : List Value} (h : Lay w g cs) : Lies w g 0 cs := by
  obtain ⟨c, e, fr, h1, rfl⟩ := h
  exact ⟨c, e, fr, h1, by simp, by rw [List.drop_zero, List.take_length]⟩
def intV : Value → Bool
  | .int _ _ => true
  | _ => false
theorem intV.plain : ∀ {v : Value}, intV v = true → plainV v = true
  | .int _ _, _ => rfl
theorem Lay.apart {w : World} {g bx off : Nat} {cs cs' : List Value} (h : Lay w g cs') (hi : cs'.all intV = true) (h2 : Lies w bx off cs) (h0 : ∃ s, Value.string s ∈ cs) : g ≠ bx := by
  rintro rfl
  obtain ⟨c, e, fr, h1, rfl⟩ := h
  obtain ⟨c', e', fr', h3, _, h4⟩ := h2
  obtain ⟨s, hs⟩ := h0
  rw [h1] at h3
  obtain ⟨rfl, _, _⟩ := Obj.cells.inj (Option.some.inj h3)
  rw [← h4] at hs
  cases List.all_eq_true.1 hi _ (List.mem_of_mem_drop (List.mem_of_mem_take hs))
theorem laid_ints {P : Program} {w : World} {l : List (String × DataW Unit)} {ps : List MemPlace} (h : DataW.LaidVars P w l ps) {n : String} {g : Nat} {t : TypeId} {k : IntKind} (zs : List Int) (hm : (n, .agg (zs.map fun z => .lit (.int k z))) ∈ l)
    (hg : P.globalNamed n = some g) (ht : (P.globals[g]?).map (·.type) = some t) (hq : intsB P t k zs.length = true) : Lay w g (zs.map fun z => .int k z) := by
  obtain ⟨g', t', cs, fuel, p, e, fr, h1, h2, h3, h4⟩ := laid_get h hm
  obtain rfl := Option.some.inj (hg.symm.trans h1)
  obtain rfl := Option.some.inj (ht.symm.trans h2)
  exact ⟨cs, e, fr, h3, ints_cells zs hq h4⟩
theorem laid_pairs {P : Program} {w : World} {l : List (String × DataW Unit)} {ps : List MemPlace} (h : DataW.LaidVars P w l ps) {n : String} {g : Nat} {t : TypeId} {k : IntKind} (zs : List (Int × Int)) (hm : (n, .agg (zs.map fun z => .agg [.lit (.int k z.1), .lit (.int k z.2)])) ∈ l)
    (hg : P.globalNamed n = some g) (ht : (P.globals[g]?).map (·.type) = some t) (hq : pairsB P t k zs.length = true) : Lay w g (zs.flatMap fun z => [.int k z.1, .int k z.2]) := by
  obtain ⟨g', t', cs, fuel, p, e, fr, h1, h2, h3, h4⟩ := laid_get h hm
  obtain rfl := Option.some.inj (hg.symm.trans h1)
  obtain rfl := Option.some.inj (ht.symm.trans h2)
  exact ⟨cs, e, fr, h3, pairs_cells zs hq h4⟩
/-- Tables of numbers, and one row of texts. -/
theorem simL {P : Program} {w : World} {G : Nat} {tabs : List (Nat × List Value)} {bx off : Nat} {x : Option (List Value)} (ht : ∀ y ∈ tabs, Lay w y.1 y.2 ∧ y.2.all intV = true)
    (hx : ∀ cs, x = some cs → Lies w bx off cs ∧ cs.all plainV = true ∧ ∃ s, Value.string s ∈ cs) : Sim P G (rhoT P w G bx off) (memT w G tabs bx x) w := by
  have hm : ∀ (l : List (Nat × List Value)) g cs, l.lookup g = some cs → (g, cs) ∈ l := by
    intro l
    induction l with
    | nil => intro g cs h; cases h
    | cons y r ih =>
      obtain ⟨a, b⟩ := y
      intro g cs h
      rw [List.lookup_cons] at h
      split at h
      · next e => cases h; rw [eq_of_beq e]; exact List.mem_cons_self
      · exact List.mem_cons_of_mem _ (ih g cs h)
  refine simT (fun g cs _ h => ?_) (fun cs h => ⟨(hx cs h).1, (hx cs h).2.1⟩) fun cs h g cs' _ h' => ?_
  · have := ht _ (hm _ _ _ h)
    exact ⟨this.1.lies, List.all_eq_true.2 fun v hv => intV.plain (List.all_eq_true.1 this.2 v hv)⟩
  · have := ht _ (hm _ _ _ h')
    exact this.1.apart this.2 (hx cs h).1 (hx cs h).2.2
theorem weightsAll_mem {H : Type} {P : Program} {e : TypeId} {n : Nat} {d : DataW H} : ∀ {ds : List (DataW H)}, d ∈ ds → n ∈ d.weights P e → n ∈ DataW.weightsAll P e ds
  | [], h, _ => by cases h
  | a :: r, h, hn => by
    simp only [DataW.weightsAll, List.mem_append]
    rcases List.mem_cons.1 h with rfl | h
    · exact Or.inl hn
    · exact Or.inr (weightsAll_mem h hn)
end Go.AL
end
