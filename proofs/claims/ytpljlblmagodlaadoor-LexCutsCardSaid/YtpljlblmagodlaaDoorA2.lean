/-
  A help text: an abstract memory, and rules that run a loaded function over it (parts 10 to 16). No statement of the seat stands here.
-/
import Derived.Test.YtpljlblmagodlaaDoorA1
import Derived.Scope
import Derived.Orders
set_option linter.unusedVariables false
set_option linter.unusedSimpArgs false
/- The library of this session's own, part 10: structs held against each other. -/
section
namespace Go.AL
open Go

/-- The kinds of a plain type's cells (1 bool, 2 whole number, 3 string), if all that it has is such. -/
def plainFs (f : TypeId → Option (List Nat)) : List Field → Nat → Option (List Nat)
  | [], _ => some []
  | x :: r, n =>
    if x.name = "_" then none else
    if x.offset = n then
      match f x.type with
      | some m => (plainFs f r (n + m.length)).map fun l => m ++ l
      | none => none
    else none
def plainT (P : Program) : Nat → TypeId → Option (List Nat)
  | 0, _ => none
  | d + 1, t =>
    match P.underlying t with
    | some .bool => if sizeQ P t = some 1 then some [1] else none
    | some (.int _) => if sizeQ P t = some 1 then some [2] else none
    | some .string => if sizeQ P t = some 1 then some [3] else none
    | some (.struct fs) => if P.stoodInHeld t = false then (plainFs (plainT P d) fs.toList 0).bind fun l => if sizeQ P t = some l.length then some l else none else none
    | _ => none
def eqK : Nat → Value → Value → Option Bool
  | 1, .bool a, .bool b => some (a == b)
  | 2, .int k a, .int k' b => if k = k' then some (a == b) else none
  | 3, .string a, .string b => some (a == b)
  | _, _, _ => none
def eqL : List Nat → List Value → List Value → Option Bool
  | [], [], [] => some true
  | k :: ks, x :: xs, y :: ys =>
    match eqK k x y, eqL ks xs ys with
    | some a, some b => some (a && b)
    | _, _ => none
  | _, _, _ => none

theorem eqL_length : ∀ {ks : List Nat} {xs ys : List Value} {b : Bool}, eqL ks xs ys = some b → xs.length = ks.length ∧ ys.length = ks.length
  | [], [], [], _, _ => ⟨rfl, rfl⟩
  | k :: ks, x :: xs, y :: ys, b, h => by
    simp only [eqL] at h
    split at h <;> cases h
    rename_i h2
    have := eqL_length h2
    simp [this.1, this.2]
  | [], _ :: _, _, _, h => by simp [eqL] at h
  | [], [], _ :: _, _, h => by simp [eqL] at h
  | _ :: _, [], _, _, h => by simp [eqL] at h
  | _ :: _, _ :: _, [], _, h => by simp [eqL] at h
theorem eqL_append : ∀ {ks ls : List Nat} {xs ys : List Value} {b : Bool}, eqL (ks ++ ls) xs ys = some b →
    ∃ b1 b2, eqL ks (xs.take ks.length) (ys.take ks.length) = some b1 ∧ eqL ls (xs.drop ks.length) (ys.drop ks.length) = some b2 ∧ b = (b1 && b2)
  | [], ls, xs, ys, b, h => ⟨true, b, by simp [eqL], by simpa using h, by simp⟩
  | k :: ks, ls, [], ys, b, h => by simp [eqL] at h
  | k :: ks, ls, x :: xs, [], b, h => by simp [eqL] at h
  | k :: ks, ls, x :: xs, y :: ys, b, h => by
    simp only [List.cons_append, eqL] at h
    split at h <;> cases h
    rename_i a b0 h1 h2
    obtain ⟨b1, b2, e1, e2, rfl⟩ := eqL_append h2
    exact ⟨a && b1, b2, by simp [eqL, h1, e1], by simpa using e2, by rw [Bool.and_assoc]⟩

section
variable {P : Program}
/-- A plain type's value out of its cells. -/
def isV (P : Program) (t : TypeId) (l : List Value) (v : Value) : Prop :=
  (∃ fs, P.underlying t = some (.struct fs) ∧ v = .agg l.toArray) ∨ ((∀ fs, P.underlying t ≠ some (.struct fs)) ∧ l = [v])

theorem plainT_size {d : Nat} {t : TypeId} {ks : List Nat} (h : plainT P d t = some ks) : sizeQ P t = some ks.length ∧ shapeQ P t = some (match P.underlying t with | some (.struct _) => .agg ks.length | _ => .cell) := by
  cases d with
  | zero => cases h
  | succ d =>
    simp only [plainT] at h
    have key : ∀ n d0, sizeQ P t = some n → P.underlying t = some d0 → ∃ i, P.info? t = some i ∧ i.size = n := by
      intro n d0 hs _
      unfold sizeQ at hs
      simp only [Option.map_eq_some_iff] at hs
      exact hs
    split at h
    · split at h <;> cases h
      rename_i hu hs
      obtain ⟨i, hi, h1⟩ := key 1 _ hs hu
      exact ⟨hs, by simp [shapeQ, hu, hi, aggB, h1]⟩
    · split at h <;> cases h
      rename_i hu hs
      obtain ⟨i, hi, h1⟩ := key 1 _ hs hu
      exact ⟨hs, by simp [shapeQ, hu, hi, aggB, h1]⟩
    · split at h <;> cases h
      rename_i hu hs
      obtain ⟨i, hi, h1⟩ := key 1 _ hs hu
      exact ⟨hs, by simp [shapeQ, hu, hi, aggB, h1]⟩
    · rename_i fs hu
      split at h <;> try cases h
      simp only [Option.bind_eq_some_iff] at h
      obtain ⟨l, _, h⟩ := h
      split at h <;> cases h
      rename_i hs
      obtain ⟨i, hi, h1⟩ := key _ _ hs hu
      exact ⟨hs, by simp [shapeQ, hu, hi, aggB, h1]⟩
    · cases h

theorem part_plain {d : Nat} {t : TypeId} {ks : List Nat} (h : plainT P d t = some ks) {cs : List Value} {off : Nat} (hlen : off + ks.length ≤ cs.length) (w : World) :
    ∃ v, (part t cs.toArray off).run P w = .ok v w ∧ isV P t ((cs.drop off).take ks.length) v := by
  obtain ⟨h1, h2⟩ := plainT_size h
  cases d with
  | zero => cases h
  | succ d =>
    by_cases hs : ∃ fs, P.underlying t = some (.struct fs)
    · obtain ⟨fs, hu⟩ := hs
      simp only [hu] at h2
      refine ⟨.agg ((cs.drop off).take ks.length).toArray, ?_, .inl ⟨fs, hu, rfl⟩⟩
      simp only [part, Sem.run_bind, run_isAgg h2, Result.andThen_ok, if_true, run_sizeOf h1, Sem.run_pure]
      congr 2
      apply Array.ext'
      simp [List.take_drop]
    · have hks : ks.length = 1 ∧ shapeQ P t = some .cell := by
        simp only [plainT] at h
        split at h
        · rename_i hu; simp only [hu] at h2; split at h <;> cases h; exact ⟨rfl, h2⟩
        · rename_i hu; simp only [hu] at h2; split at h <;> cases h; exact ⟨rfl, h2⟩
        · rename_i hu; simp only [hu] at h2; split at h <;> cases h; exact ⟨rfl, h2⟩
        · rename_i fs hu; exact absurd ⟨fs, hu⟩ hs
        · cases h
      have hlt : off < cs.length := by omega
      refine ⟨cs[off], ?_, .inr ⟨fun fs hu => hs ⟨fs, hu⟩, ?_⟩⟩
      · simp only [part, Sem.run_bind, run_isAgg hks.2, Result.andThen_ok, Bool.false_eq_true, if_false]
        rw [show cs.toArray[off]? = some cs[off] by simp [hlt]]
        rfl
      · rw [hks.1, List.drop_eq_getElem_cons hlt]; rfl

theorem eq_loop {α : Type} (f : α → (Option Bool × Unit) → Sem (ForInStep (Option Bool × Unit))) (r : α → Bool) (w : World) :
    ∀ (l : List α), (∀ x ∈ l, (f x (none, ())).run P w = .ok (if r x then .yield (none, ()) else .done (some false, ())) w) →
    (forIn l ((none, ()) : Option Bool × Unit) f).run P w = .ok (if l.all r then (none, ()) else (some false, ())) w
  | [], _ => by simp
  | x :: l, h => by
    have hx := h x (by simp)
    simp only [List.forIn_cons, Sem.run_bind, hx, Result.andThen_ok]
    by_cases hr : r x = true
    · simp only [hr, if_true, eq_loop f r w l fun y hy => h y (by simp [hy]), List.all_cons, Bool.true_and]
    · simp only [hr, if_false, List.all_cons, Bool.false_eq_true, Bool.false_and, Sem.run_pure]

theorem equalIn_plain : ∀ (d : Nat) (t : TypeId) (ks : List Nat), plainT P d t = some ks → ∀ D, d ≤ D → ∀ (xs ys : List Value) (b : Bool), eqL ks xs ys = some b →
    ∀ x y, isV P t xs x → isV P t ys y → ∀ w, (Op.equalIn D t x y).run P w = .ok b w := by
  intro d
  induction d with
  | zero => intro t ks h; cases h
  | succ d ih =>
    intro t ks h D hD xs ys b hb x y hx hy w
    obtain ⟨D, rfl⟩ : ∃ m, D = m + 1 := ⟨D - 1, by omega⟩
    simp only [plainT] at h
    have one : ∀ k, (∀ fs, P.underlying t ≠ some (.struct fs)) → ks = [k] → xs = [x] ∧ ys = [y] ∧ eqK k x y = some b := by
      intro k hn hk
      subst hk
      rcases hx with ⟨fs, hu, _⟩ | ⟨_, rfl⟩
      · exact absurd hu (hn fs)
      rcases hy with ⟨fs, hu, _⟩ | ⟨_, rfl⟩
      · exact absurd hu (hn fs)
      refine ⟨rfl, rfl, ?_⟩
      simp only [eqL] at hb
      cases he : eqK k x y with
      | none => simp [he] at hb
      | some a => simpa [he] using hb
    split at h
    · split at h <;> cases h
      rename_i hu _
      obtain ⟨_, _, he⟩ := one 1 (fun fs hf => by rw [hu] at hf; cases hf) rfl
      rw [Op.equalIn]
      unfold eqK at he
      split at he <;> first | (rename_i e1 _ _; cases e1; done) | cases he | skip
      simp [run_underlying hu]
    · split at h <;> cases h
      rename_i kk hu _
      obtain ⟨_, _, he⟩ := one 2 (fun fs hf => by rw [hu] at hf; cases hf) rfl
      rw [Op.equalIn]
      unfold eqK at he
      split at he <;> first | (rename_i e1 _ _; cases e1; done) | skip
      · split at he <;> cases he
        rename_i hk
        simp [run_underlying hu, hk]
      · cases he
    · split at h <;> cases h
      rename_i hu _
      obtain ⟨_, _, he⟩ := one 3 (fun fs hf => by rw [hu] at hf; cases hf) rfl
      rw [Op.equalIn]
      unfold eqK at he
      split at he <;> first | (rename_i e1 _ _; cases e1; done) | cases he | skip
      simp [run_underlying hu]
    · rename_i fs hu
      split at h <;> try cases h
      rename_i hst
      simp only [Option.bind_eq_some_iff] at h
      obtain ⟨l, hl, h⟩ := h
      split at h <;> cases h
      rcases hx with ⟨fs', hu', rfl⟩ | ⟨hn, _⟩
      · rcases hy with ⟨fs'', hu'', rfl⟩ | ⟨hn, _⟩
        · -- the loop over the fields
          let rr : Field → Bool := fun x => match plainT P d x.type with
            | some m => (eqL m ((xs.drop x.offset).take m.length) ((ys.drop x.offset).take m.length)).getD false
            | none => false
          have key : ∀ (l : List Field) (n : Nat) (ks : List Nat) (b : Bool), plainFs (plainT P d) l n = some ks → n + ks.length = xs.length → n + ks.length = ys.length → eqL ks (xs.drop n) (ys.drop n) = some b →
              l.all rr = b ∧ ∀ x ∈ l, x.name ≠ "_" ∧ ∃ v v', (part x.type xs.toArray x.offset).run P w = .ok v w ∧ (part x.type ys.toArray x.offset).run P w = .ok v' w ∧ (Op.equalIn D x.type v v').run P w = .ok (rr x) w := by
            intro l
            induction l with
            | nil =>
              intro n ks b hk hxl hyl he
              simp only [plainFs] at hk
              cases hk
              have := eqL_length he
              have h1 : xs.drop n = [] := List.eq_nil_of_length_eq_zero this.1
              have h2 : ys.drop n = [] := List.eq_nil_of_length_eq_zero this.2
              rw [h1, h2] at he
              simp only [eqL] at he
              cases he
              exact ⟨rfl, by intro x hx; cases hx⟩
            | cons f l ihl =>
              intro n ks b hk hxl hyl he
              simp only [plainFs] at hk
              split at hk <;> try cases hk
              rename_i hname
              split at hk <;> try cases hk
              rename_i hoff
              split at hk <;> try cases hk
              rename_i m hm
              simp only [Option.map_eq_some_iff] at hk
              obtain ⟨ks', hk', rfl⟩ := hk
              obtain ⟨b1, b2, e1, e2, rfl⟩ := eqL_append he
              rw [List.drop_drop, List.drop_drop] at e2
              simp only [List.length_append] at hxl hyl
              obtain ⟨h3, h4⟩ := ihl (n + m.length) ks' b2 hk' (by omega) (by omega) e2
              have hrr : rr f = b1 := by simp only [rr, hm, hoff, e1, Option.getD_some]
              refine ⟨by simp only [List.all_cons, hrr, h3], ?_⟩
              intro x hx
              rcases List.mem_cons.1 hx with rfl | hx
              · obtain ⟨v, hv, hiv⟩ := part_plain hm (cs := xs) (off := x.offset) (by omega) w
                obtain ⟨v', hv', hiv'⟩ := part_plain hm (cs := ys) (off := x.offset) (by omega) w
                refine ⟨hname, v, v', hv, hv', ?_⟩
                rw [hrr]
                exact ih x.type m hm D (by omega) _ _ b1 (by rw [hoff]; exact e1) v v' hiv hiv' w
              · exact h4 x hx
          have hlen := eqL_length hb
          obtain ⟨h3, h4⟩ := key fs.toList 0 ks b hl (by omega) (by omega) (by simpa using hb)
          rw [Op.equalIn]
          simp only [bind_pure_comp, ne_eq, ite_not, Sem.run_bind, run_underlying hu, Result.andThen_ok, run_program, hst, Bool.false_eq_true, if_false]
          rw [← Array.forIn_toList]
          have hloop := eq_loop (P := P) (fun (f : Field) (_ : Option Bool × Unit) => (if f.name = "_" then pure (ForInStep.yield (none, ())) else do
              let a ← part f.type xs.toArray f.offset
              let b ← part f.type ys.toArray f.offset
              let c ← Op.equalIn D f.type a b
              if (!c) = true then pure (ForInStep.done (some false, ())) else pure (ForInStep.yield (none, ())) : Sem (ForInStep (Option Bool × Unit)))) rr w fs.toList (fun x hx => by
            obtain ⟨hn, v, v', p1, p2, p3⟩ := h4 x hx
            simp only [hn, if_false, Sem.run_bind, p1, p2, p3, Result.andThen_ok]
            cases rr x <;> rfl)
          rw [hloop, h3]
          cases b <;> rfl
        · exact absurd hu (hn fs)
      · exact absurd hu (hn fs)
    · cases h
end
end Go.AL
end
/- The library of this session's own, part 11: one operation, whichever it is (but calls of functions). -/
section
namespace Go.AL
open Go

def Tm : Type := List (Nat × Value)
def look : List (Nat × Value) → Nat → Option Value
  | [], _ => none
  | (a, v) :: l, t => if a = t then some v else look l t
def putL : List (Nat × Value) → Nat → Value → List (Nat × Value)
  | [], t, v => [(t, v)]
  | (a, u) :: l, t, v => if a = t then (a, v) :: l else (a, u) :: putL l t v
theorem look_putL (l : List (Nat × Value)) (t : Nat) (v : Value) (s : Nat) : look (putL l t v) s = if s = t then some v else look l s := by
  induction l with
  | nil => simp only [putL, look]; split <;> split <;> first | rfl | (exfalso; omega)
  | cons p l ih =>
    obtain ⟨a, u⟩ := p
    simp only [putL]
    split
    · rename_i h
      subst h
      simp only [look]
      repeat' split
      all_goals first | rfl | (exfalso; omega)
    · rename_i h
      simp only [look, ih]
      repeat' split
      all_goals first | rfl | (exfalso; omega)

def ev (G : Nat) (tm : List (Nat × Value)) : Operand → Option Value
  | .tmp t => look tm t
  | .const v => if flatV v = true then some v else none
  | .global g => if g < G then some (.pointer (some ⟨g, 0, none⟩)) else none
  | .func f => some (.func (.func f) #[] #[])
def evL (G : Nat) (tm : List (Nat × Value)) : List Operand → Option (List Value)
  | [] => some []
  | x :: r =>
    match ev G tm x, evL G tm r with
    | some v, some l => some (v :: l)
    | _, _ => none
def evP (G : Nat) (tm : List (Nat × Value)) : List (Nat × Operand) → Option (List (Nat × Value))
  | [] => some []
  | (i, x) :: r =>
    match ev G tm x, evP G tm r with
    | some v, some l => some ((i, v) :: l)
    | _, _ => none
def evO (G : Nat) (tm : List (Nat × Value)) : Option Operand → Option (Option Value)
  | none => some none
  | some x => (ev G tm x).map some

def TRel (ρ : Nat → BI) (S : Nat → Prop) (tm : List (Nat × Value)) (tmps : Array Value) : Prop := ∀ t v, look tm t = some v → ∃ v', tmps[t]? = some v' ∧ VRel ρ S v v'

section
variable {P : Program} {G : Nat} {ρ : Nat → BI} {S : Nat → Prop} {get : Nat → Option AObj} {w : World} {tm : List (Nat × Value)} {a : Act}

theorem ev_sound (h : SimS P G ρ S get w) (ht : TRel ρ S tm a.tmps) {x : Operand} {v : Value} (hv : ev G tm x = some v) : VRel ρ S v (a.eval x) := by
  cases x with
  | tmp t =>
    obtain ⟨v', h1, h2⟩ := ht t v hv
    simpa [Act.eval, h1] using h2
  | const c => simp only [ev] at hv; split at hv <;> cases hv; exact flatV_rel (by assumption)
  | global g =>
    simp only [ev] at hv
    split at hv <;> cases hv
    rename_i hg
    obtain ⟨h1, h2⟩ := h.glob g hg
    have := VRel.ptr (ρ := ρ) (S := S) g 0 (h.globs g hg)
    rw [h1, h2] at this
    exact this
  | func f => simp only [ev] at hv; cases hv; exact .func f _ _ _ _ rfl rfl (fun i h => by simp at h) (fun i h => by simp at h)
theorem evL_sound (h : SimS P G ρ S get w) (ht : TRel ρ S tm a.tmps) : ∀ {l : List Operand} {vs : List Value}, evL G tm l = some vs → LRel ρ S vs (l.map a.eval)
  | [], vs, hv => by simp only [evL] at hv; cases hv; exact .nil
  | x :: l, vs, hv => by
    simp only [evL] at hv
    split at hv <;> cases hv
    rename_i h1 h2
    exact LRel.cons (ev_sound h ht h1) (evL_sound h ht h2)
theorem evP_sound (h : SimS P G ρ S get w) (ht : TRel ρ S tm a.tmps) : ∀ {l : List (Nat × Operand)} {vs : List (Nat × Value)}, evP G tm l = some vs →
    vs.map (·.1) = (l.map fun p => (p.1, a.eval p.2)).map (·.1) ∧ LRel ρ S (vs.map (·.2)) ((l.map fun p => (p.1, a.eval p.2)).map (·.2))
  | [], vs, hv => by simp only [evP] at hv; cases hv; exact ⟨rfl, .nil⟩
  | (i, x) :: l, vs, hv => by
    simp only [evP] at hv
    split at hv <;> cases hv
    rename_i h1 h2
    obtain ⟨e1, e2⟩ := evP_sound h ht h2
    exact ⟨by simp only [List.map_cons, e1], by simp only [List.map_cons]; exact LRel.cons (ev_sound h ht h1) e2⟩
theorem evO_sound (h : SimS P G ρ S get w) (ht : TRel ρ S tm a.tmps) {x : Option Operand} {v : Option Value} (hv : evO G tm x = some v) : ORelV ρ S v (x.map a.eval) := by
  cases x with
  | none => simp only [evO] at hv; cases hv; trivial
  | some x =>
    simp only [evO, Option.map_eq_some_iff] at hv
    obtain ⟨u, h1, rfl⟩ := hv
    exact ev_sound h ht h1

/-- The kinds of a plain struct's cells. -/
def plainQ (P : Program) (t : TypeId) : Option (List Nat) :=
  match P.underlying t with
  | some (.struct _) => if P.eqGuardType P.depth t = false then plainT P 8 t else none
  | _ => none
def aEqS (P : Program) (t : TypeId) (x y : Value) : Option Bool :=
  match x, y with
  | .agg xs, .agg ys =>
    match plainQ P t with
    | some ks => eqL ks xs.toList ys.toList
    | none => none
  | _, _ => none
theorem eqK_rel {k : Nat} {x x' y y' : Value} {b : Bool} (hx : VRel ρ S x x') (hy : VRel ρ S y y') (h : eqK k x y = some b) : eqK k x' y' = some b := by
  unfold eqK at h
  split at h
  · cases hx; cases hy; exact h
  · cases hx; cases hy; exact h
  · cases hx; cases hy; exact h
  · cases h
theorem eqL_rel : ∀ {ks : List Nat} {xs xs' ys ys' : List Value} {b : Bool}, LRel ρ S xs xs' → LRel ρ S ys ys' → eqL ks xs ys = some b → eqL ks xs' ys' = some b
  | [], [], xs', [], ys', b, hx, hy, h => by rw [hx.nil_inv, hy.nil_inv]; exact h
  | k :: ks, x :: xs, xs', y :: ys, ys', b, hx, hy, h => by
    obtain ⟨v, t, rfl, hv, ht⟩ := hx.cons_inv
    obtain ⟨v', t', rfl, hv', ht'⟩ := hy.cons_inv
    simp only [eqL] at h ⊢
    split at h <;> cases h
    rename_i h1 h2
    rw [eqK_rel hv hv' h1, eqL_rel ht ht' h2]
  | [], _ :: _, _, _, _, _, _, _, h => by simp [eqL] at h
  | [], [], _, _ :: _, _, _, _, _, h => by simp [eqL] at h
  | _ :: _, [], _, _, _, _, _, _, h => by simp [eqL] at h
  | _ :: _, _ :: _, _, [], _, _, _, _, h => by simp [eqL] at h
theorem aEqS_run {t : TypeId} {x x' y y' : Value} (a b : Operand) {r : Bool} (hx : VRel ρ S x x') (hy : VRel ρ S y y') (h : aEqS P t x y = some r) (w : World) :
    (eqGuard .eql t a b x' y').run P w = .ok () w ∧ (eqGuard .neq t a b x' y').run P w = .ok () w ∧ (Op.equal t x' y').run P w = .ok r w ∧
      binOp .eql t x' y' = (do pure (.bool (← Op.equal t x' y'))) ∧ binOp .neq t x' y' = (do pure (.bool (!(← Op.equal t x' y')))) := by
  unfold aEqS at h
  split at h <;> try cases h
  rename_i xs ys
  split at h <;> try cases h
  rename_i ks hk
  obtain ⟨xs', rfl, hxs⟩ := hx.agg_iff
  obtain ⟨ys', rfl, hys⟩ := hy.agg_iff
  unfold plainQ at hk
  split at hk <;> try cases hk
  rename_i fs hu
  split at hk <;> try cases hk
  rename_i hg
  have he := eqL_rel hxs hys h
  have hg2 : ∀ op, (op = .eql ∨ op = .neq) → (eqGuard op t a b (.agg xs') (.agg ys')).run P w = .ok () w := by
    intro op hop
    rcases hop with rfl | rfl <;> simp [eqGuard, hg]
  refine ⟨hg2 _ (.inl rfl), hg2 _ (.inr rfl), ?_, rfl, rfl⟩
  exact equalIn_plain 8 t ks hk 10000 (by decide) _ _ r he _ _ (.inl ⟨fs, hu, rfl⟩) (.inl ⟨fs, hu, rfl⟩) w

/-- '==' and '!=' of what is no number and no string. -/
def aCmp (P : Program) (op : BinOp) (t : TypeId) (nilConst : Bool) (x y : Value) : Option Value :=
  match (match x with | .agg _ => aEqS P t x y | _ => aEq P t nilConst x y), op with
  | some b, .eql => some (.bool b)
  | some b, .neq => some (.bool !b)
  | _, _ => none
theorem aCmp_sound {op : BinOp} {t : TypeId} {x x' y y' v : Value} (a b : Operand) (hx : VRel ρ S x x') (hy : VRel ρ S y y') (h : aCmp P op t (constOp a || constOp b) x y = some v) (w : World) :
    (do eqGuard op t a b x' y'; binOp op t x' y' : Sem Value).run P w = .ok v w ∧ VRel ρ S v v := by
  unfold aCmp at h
  have key : ∀ r, (match x with | .agg _ => aEqS P t x y | _ => aEq P t (constOp a || constOp b) x y) = some r →
      (eqGuard .eql t a b x' y').run P w = .ok () w ∧ (eqGuard .neq t a b x' y').run P w = .ok () w ∧ (Op.equal t x' y').run P w = .ok r w ∧
      binOp .eql t x' y' = (do pure (.bool (← Op.equal t x' y'))) ∧ binOp .neq t x' y' = (do pure (.bool (!(← Op.equal t x' y')))) := by
    intro r hr
    split at hr
    · exact aEqS_run a b hx hy hr w
    · exact aEq_run a b hx hy hr w
  split at h <;> cases h
  · rename_i r hr
    obtain ⟨k1, k2, k3, k4, k5⟩ := key r hr
    refine ⟨?_, .bool _⟩
    simp only [Sem.run_bind, k1, Result.andThen_ok, k4, k3, Sem.run_pure]
  · rename_i r hr
    obtain ⟨k1, k2, k3, k4, k5⟩ := key r hr
    refine ⟨?_, .bool _⟩
    simp only [Sem.run_bind, k2, Result.andThen_ok, k5, k3, Sem.run_pure]

def aBuiltin (P : Program) (b : Builtin) (ts : List TypeId) (vs : List Value) (get : Nat → Option AObj) (kk : Nat) : Option (Value × Eff) :=
  match b, ts, vs with
  | .len, [t], [x] => (aLen P t x).map fun v => (v, .none)
  | .append, [t0, t1], [s, x] => aAppend P t0 t1 get kk s x
  | .copy, [t0, _], [d, s] => aCopy P t0 get d s
  | .min, _, [x, y] => (aTwo Builtin.min2 x y).map fun v => (v, .none)
  | .max, _, [x, y] => (aTwo Builtin.max2 x y).map fun v => (v, .none)
  | .unsafeString, [t, _], [p, n] => aUStr P t get p n
  | .unsafeSliceData, _, [x] => (aUData x).map fun v => (v, .none)
  | _, _, _ => none

def absOp (P : Program) (G : Nat) (op : Op) (tm : List (Nat × Value)) (get : Nat → Option AObj) (kk : Nat) : Option (Value × Eff) :=
  match op with
  | .move x => (ev G tm x).map fun v => (v, .none)
  | .assign x => (ev G tm x).map fun v => (v, .none)
  | .pick c x y =>
    match ev G tm c with
    | some (.bool true) => (ev G tm x).map fun v => (v, .none)
    | some (.bool false) => (ev G tm y).map fun v => (v, .none)
    | _ => none
  | .alloc t => (zeroF P t).bind fun l => (aNew t l).map fun a => (.pointer (some ⟨kk, 0, none⟩), .new a)
  | .box t x => (ev G tm x).bind fun v => (aNew t v.cells.toList).map fun a => (.pointer (some ⟨kk, 0, none⟩), .new a)
  | .build t parts => (evP G tm parts.toList).bind fun ps => (aBuild P t ps).map fun v => (v, .none)
  | .buildSlice t len parts => (evP G tm parts.toList).bind fun ps => (aBuildSlice P t len ps).bind fun (e, l) => (aNew e l).map fun a => (.slice (some ⟨kk, 0, none⟩) len len, .new a)
  | .load t x => (ev G tm x).bind fun v => (aLoad P t get v).map fun r => (r, .none)
  | .store t x y =>
    match ev G tm x, ev G tm y with
    | some v, some u => (aStore P t get v u).map fun (k, a) => (undef, .set k a)
    | _, _ => none
  | .nilCheck x =>
    match ev G tm x with
    | some (.pointer (some p)) => some (.pointer (some p), .none)
    | some (.func (.func f) x y) => some (.func (.func f) x y, .none)
    | _ => none
  | .binOp op t x y _ =>
    match ev G tm x, ev G tm y with
    | some v, some u => (match v with | .int _ _ | .string _ => aBin op v u | _ => aCmp P op t (constOp x || constOp y) v u).map fun r => (r, .none)
    | _, _ => none
  | .unOp op _ x => (ev G tm x).bind fun v => (aUn op v).map fun r => (r, .none)
  | .convert s d x => (ev G tm x).bind fun v => (aConvert P s d get v).map fun r => (r, .none)
  | .makeInterface t x => (ev G tm x).bind fun v => (aIface P t v).map fun r => (r, .none)
  | .makeFunc (.func f) first captured =>
    match evL G tm first.toList, evL G tm captured.toList with
    | some l, some m => some (.func (.func f) l.toArray m.toArray, .none)
    | _, _ => none
  | .makeSlice t l c =>
    match ev G tm l, ev G tm c with
    | some v, some u => (aMake P t v u).bind fun (e, ln, cn, cs) => (aNew e cs).map fun a => (.slice (some ⟨kk, 0, none⟩) ln cn, .new a)
    | _, _ => none
  | .slice t x lo hi mx =>
    match ev G tm x, evO G tm lo, evO G tm hi, evO G tm mx with
    | some v, some l, some h, some m => (aSlice P t get v l h m).map fun r => (r, .none)
    | _, _, _, _ => none
  | .fieldAddr s x f => (ev G tm x).bind fun v => (aFieldAddr P s f v).map fun r => (r, .none)
  | .field s x f => (ev G tm x).bind fun v => (aField P s f v).map fun r => (r, .none)
  | .indexAddr t x i =>
    match ev G tm x, ev G tm i with
    | some v, some u => (aIndexAddr P t v u).map fun r => (r, .none)
    | _, _ => none
  | .index t x i =>
    match ev G tm x, ev G tm i with
    | some v, some u => (aIndex P t v u).map fun r => (r, .none)
    | _, _ => none
  | .range t x =>
    match ev G tm x, P.underlying t with
    | some (.string s), some .string => some (.pointer (some ⟨kk, 0, none⟩), .new (.iter s 0))
    | _, _ => none
  | .next x true => (ev G tm x).bind fun v => aNext get v
  | .extract x i => (ev G tm x).bind fun v => (aExtract v i).map fun r => (r, .none)
  | .call c =>
    match c.callee with
    | .builtin b => (evL G tm c.args.toList).bind fun vs => aBuiltin P b c.argTypes.toList vs get kk
    | _ => none
  | _ => none

/-- The machine's operation ends with a value (or with none, where none is wanted). -/
def Goes (P : Program) (a : Act) (o : Oper) (w : World) (v' : Value) (w' : World) : Prop :=
  (execOp a.eval o).run P w = .ok (.value v') w' ∨ ((execOp a.eval o).run P w = .ok .skip w' ∧ v' = undef)

theorem undef_rel : VRel ρ S undef undef := VRel.tuple #[] #[] rfl (fun i h => by simp at h)
set_option maxHeartbeats 2000000 in
theorem absOp_sound (h : SimS P G ρ S get w) {kk : Nat} (hk : ¬ S kk) (ht : TRel ρ S tm a.tmps) {o : Oper} {v : Value} {e : Eff} (hr : absOp P G o.op tm get kk = some (v, e)) :
    ∃ ρ' v' w', Goes P a o w v' w' ∧ VRel ρ' (e.S kk S) v v' ∧ StepS P G ρ S get w ρ' (e.S kk S) (e.get kk get) w' := by
  have val : ∀ {s : Sem Value} {v' : Value} {w' : World}, (execOp a.eval o = (do pure (.value (← s)))) → s.run P w = .ok v' w' → Goes P a o w v' w' := by
    intro s v' w' h1 h2
    left
    rw [h1]
    simp only [Sem.run_bind, h2, Result.andThen_ok, Sem.run_pure]
  have same : ∀ {s : Sem Value} {r r' : Value}, (execOp a.eval o = (do pure (.value (← s)))) → s.run P w = .ok r' w → VRel ρ S r r' → (r, Eff.none) = (v, e) →
      ∃ ρ' v' w', Goes P a o w v' w' ∧ VRel ρ' (e.S kk S) v v' ∧ StepS P G ρ S get w ρ' (e.S kk S) (e.get kk get) w' := by
    intro s r r' h1 h2 h3 h4
    cases h4
    exact ⟨ρ, r', w, val h1 h2, h3, StepS.refl h⟩
  have fresh : ∀ {s : Sem Value} {ob : AObj} {r : Value}, (execOp a.eval o = (do pure (.value (← s)))) →
      (∃ b : BI, b.blk = w.heap.size ∧ b.shift = 0 ∧ ∃ w' v', s.run P w = .ok v' w' ∧ StepS P G ρ S get w (upd ρ kk b) (fun j => S j ∨ j = kk) (upd get kk (some ob)) w' ∧ VRel (upd ρ kk b) (fun j => S j ∨ j = kk) r v') →
      (r, Eff.new ob) = (v, e) → ∃ ρ' v' w', Goes P a o w v' w' ∧ VRel ρ' (e.S kk S) v v' ∧ StepS P G ρ S get w ρ' (e.S kk S) (e.get kk get) w' := by
    intro s ob r h1 h2 h4
    cases h4
    obtain ⟨b, _, _, w', v', h2, h3, h5⟩ := h2
    exact ⟨_, v', w', val h1 h2, h5, h3⟩
  have ptr : ∀ {s : Sem Value} {ob : AObj}, (execOp a.eval o = (do pure (.value (← s)))) →
      (∃ b : BI, b.blk = w.heap.size ∧ b.shift = 0 ∧ ∃ w', s.run P w = .ok (.pointer (some ⟨b.blk, b.shift + 0, none⟩)) w' ∧ StepS P G ρ S get w (upd ρ kk b) (fun j => S j ∨ j = kk) (upd get kk (some ob)) w') →
      (Value.pointer (some ⟨kk, 0, none⟩), Eff.new ob) = (v, e) → ∃ ρ' v' w', Goes P a o w v' w' ∧ VRel ρ' (e.S kk S) v v' ∧ StepS P G ρ S get w ρ' (e.S kk S) (e.get kk get) w' := by
    intro s ob h1 h2 h4
    obtain ⟨b, e1, e2, w', h2, h3⟩ := h2
    refine fresh h1 ⟨b, e1, e2, w', _, h2, h3, ?_⟩ h4
    have := VRel.ptr (ρ := upd ρ kk b) (S := fun j => S j ∨ j = kk) kk 0 (.inr rfl)
    rw [upd_self] at this
    exact this
  obtain ⟨dst, op, type, pos, after, guard⟩ := o
  have E := @ev_sound P G ρ S get w tm a h ht
  cases op
  case move x =>
    simp only [absOp, Option.map_eq_some_iff] at hr
    obtain ⟨u, h1, h2⟩ := hr
    exact same (s := pure (a.eval x)) rfl rfl (E h1) h2
  case assign x =>
    simp only [absOp, Option.map_eq_some_iff] at hr
    obtain ⟨u, h1, h2⟩ := hr
    exact same (s := pure (a.eval x)) rfl rfl (E h1) h2
  case pick c x y =>
    simp only [absOp] at hr
    split at hr
    · rename_i hc
      simp only [Option.map_eq_some_iff] at hr
      obtain ⟨u, h1, h2⟩ := hr
      have hb := E hc
      generalize hce : a.eval c = cv at hb
      cases hb
      refine same (s := pure (a.eval x)) ?_ rfl (E h1) h2
      simp [execOp, hce, asBool]
    · rename_i hc
      simp only [Option.map_eq_some_iff] at hr
      obtain ⟨u, h1, h2⟩ := hr
      have hb := E hc
      generalize hce : a.eval c = cv at hb
      cases hb
      refine same (s := pure (a.eval y)) ?_ rfl (E h1) h2
      simp [execOp, hce, asBool]
    · cases hr
  case alloc t =>
    simp only [absOp, Option.bind_eq_some_iff, Option.map_eq_some_iff] at hr
    obtain ⟨l, h1, ob, h2, h3⟩ := hr
    exact ptr (s := Instr.alloc t true (.tuple #[])) rfl (aAlloc_sound h hk h1 h2) h3
  case box t x =>
    simp only [absOp, Option.bind_eq_some_iff, Option.map_eq_some_iff] at hr
    obtain ⟨l, h1, ob, h2, h3⟩ := hr
    exact ptr (s := Instr.box t (a.eval x)) rfl (aBox_sound h hk (E h1) h2) h3
  case build t parts =>
    simp only [absOp, Option.bind_eq_some_iff, Option.map_eq_some_iff] at hr
    obtain ⟨ps, h1, r, h2, h3⟩ := hr
    obtain ⟨e1, e2⟩ := evP_sound h ht h1
    obtain ⟨r', h4, h5⟩ := aBuild_sound e1 e2 h2 w
    refine same (s := Instr.build t (parts.map fun (i, x) => (i, a.eval x))) rfl ?_ h5 h3
    rw [← h4]
    congr 2
    apply Array.ext'
    simp
  case buildSlice t len parts =>
    simp only [absOp, Option.bind_eq_some_iff, Option.map_eq_some_iff] at hr
    obtain ⟨ps, h1, ⟨el, l⟩, h2, ob, h3, h4⟩ := hr
    obtain ⟨e1, e2⟩ := evP_sound h ht h1
    obtain ⟨b, b1, b2, w', v', h5, h6, h7⟩ := aBuildSlice_sound h hk e1 e2 h2 h3
    refine fresh (s := Instr.buildSlice t len (parts.map fun (i, x) => (i, a.eval x))) rfl ⟨b, b1, b2, w', v', ?_, h6, h7⟩ h4
    rw [← h5]
    congr 2
    apply Array.ext'
    simp
  case load t x =>
    simp only [absOp, Option.bind_eq_some_iff, Option.map_eq_some_iff] at hr
    obtain ⟨u, h1, r, h2, h3⟩ := hr
    obtain ⟨r', h4, h5⟩ := aLoad_sound h (E h1) h2
    exact same (s := Instr.loadAt t (a.eval x)) rfl h4 h5 h3
  case store t x y =>
    simp only [absOp] at hr
    split at hr <;> try cases hr
    rename_i v1 v2 h1 h2
    simp only [Option.map_eq_some_iff] at hr
    obtain ⟨⟨k, ob⟩, h3, h4⟩ := hr
    cases h4
    obtain ⟨w', h5, h6⟩ := aStore_sound h (E h1) (E h2) h3
    refine ⟨ρ, undef, w', .inr ⟨?_, rfl⟩, undef_rel, h6⟩
    simp only [execOp, Sem.run_bind, h5, Result.andThen_ok, Sem.run_pure]
  case nilCheck x =>
    simp only [absOp] at hr
    split at hr <;> try cases hr
    · rename_i p h1
      have hb := E h1
      generalize hce : a.eval x = cv at hb
      cases hb
      rename_i k off hS
      refine ⟨ρ, _, w, .inl ?_, .ptr k off hS, StepS.refl h⟩
      simp [execOp, hce]
    · rename_i f c1 c2 h1
      have hb := E h1
      generalize hce : a.eval x = cv at hb
      refine ⟨ρ, cv, w, .inl ?_, hb, StepS.refl h⟩
      cases hb
      simp [execOp, hce]
  case binOp op t x y ty =>
    simp only [absOp] at hr
    split at hr <;> try cases hr
    rename_i v1 v2 h1 h2
    simp only [Option.map_eq_some_iff] at hr
    obtain ⟨r, hr, h3⟩ := hr
    have hh : (do eqGuard op t x y (a.eval x) (a.eval y); binOp op t (a.eval x) (a.eval y) : Sem Value).run P w = .ok r w ∧ VRel ρ S r r := by
      split at hr
      · exact aBin_rel (E h1) (E h2) hr w
      · exact aBin_rel (E h1) (E h2) hr w
      · exact aCmp_sound x y (E h1) (E h2) hr w
    exact same (s := do eqGuard op t x y (a.eval x) (a.eval y); binOp op t (a.eval x) (a.eval y)) rfl hh.1 hh.2 h3
  case unOp op t x =>
    simp only [absOp, Option.bind_eq_some_iff, Option.map_eq_some_iff] at hr
    obtain ⟨u, h1, r, h2, h3⟩ := hr
    obtain ⟨h4, h5⟩ := aUn_sound (E h1) h2 w
    exact same (s := Op.unary op (a.eval x)) rfl h4 h5 h3
  case convert s d x =>
    simp only [absOp, Option.bind_eq_some_iff, Option.map_eq_some_iff] at hr
    obtain ⟨u, h1, r, h2, h3⟩ := hr
    obtain ⟨h4, h5⟩ := aConvert_sound h (E h1) h2
    exact same (s := Go.convert s d (a.eval x)) rfl h4 h5 h3
  case makeInterface t x =>
    simp only [absOp, Option.bind_eq_some_iff, Option.map_eq_some_iff] at hr
    obtain ⟨u, h1, r, h2, h3⟩ := hr
    obtain ⟨r', h4, h5⟩ := aIface_sound (E h1) h2 w
    exact same (s := Instr.makeInterface t (a.eval x)) rfl h4 h5 h3
  case makeFunc fn first captured =>
    cases fn <;> simp only [absOp] at hr <;> try cases hr
    rename_i f
    split at hr <;> cases hr
    rename_i l m h1 h2
    have r1 := evL_sound h ht h1
    have r2 := evL_sound h ht h2
    have hf : VRel ρ S (.func (.func f) l.toArray m.toArray) (.func (.func f) (first.map a.eval) (captured.map a.eval)) := by
      exact .of_func f (by simpa using r1) (by simpa using r2)
    exact same (s := Instr.makeFunc (.func f) (first.map a.eval) (captured.map a.eval)) rfl rfl hf rfl
  case makeSlice t l c =>
    simp only [absOp] at hr
    split at hr <;> try cases hr
    rename_i v1 v2 h1 h2
    simp only [Option.bind_eq_some_iff, Option.map_eq_some_iff] at hr
    obtain ⟨⟨el, ln, cn, cs⟩, h3, ob, h4, h5⟩ := hr
    exact fresh (s := Instr.makeSlice t (a.eval l) (a.eval c)) rfl (aMake_sound h hk (E h1) (E h2) h3 h4) h5
  case slice t x lo hi mx =>
    simp only [absOp] at hr
    split at hr <;> try cases hr
    rename_i v1 v2 v3 v4 h1 h2 h3 h4
    simp only [Option.map_eq_some_iff] at hr
    obtain ⟨r, h5, h6⟩ := hr
    obtain ⟨r', h7, h8⟩ := aSlice_sound h (E h1) (evO_sound h ht h2) (evO_sound h ht h3) (evO_sound h ht h4) h5
    exact same (s := Instr.sliceAt t (a.eval x) (lo.map a.eval) (hi.map a.eval) (mx.map a.eval)) rfl h7 h8 h6
  case fieldAddr s x f =>
    simp only [absOp, Option.bind_eq_some_iff, Option.map_eq_some_iff] at hr
    obtain ⟨u, h1, r, h2, h3⟩ := hr
    obtain ⟨r', h4, h5⟩ := aFieldAddr_sound (E h1) h2 w
    exact same (s := Instr.fieldAt s (a.eval x) f) rfl h4 h5 h3
  case field s x f =>
    simp only [absOp, Option.bind_eq_some_iff, Option.map_eq_some_iff] at hr
    obtain ⟨u, h1, r, h2, h3⟩ := hr
    obtain ⟨r', h4, h5⟩ := aField_sound (E h1) h2 w
    exact same (s := Instr.field s (a.eval x) f) rfl h4 h5 h3
  case indexAddr t x i =>
    simp only [absOp] at hr
    split at hr <;> try cases hr
    rename_i v1 v2 h1 h2
    simp only [Option.map_eq_some_iff] at hr
    obtain ⟨r, h5, h6⟩ := hr
    obtain ⟨r', h7, h8⟩ := aIndexAddr_sound (E h1) (E h2) h5 w
    exact same (s := Instr.indexAt t (a.eval x) (a.eval i)) rfl h7 h8 h6
  case index t x i =>
    simp only [absOp] at hr
    split at hr <;> try cases hr
    rename_i v1 v2 h1 h2
    simp only [Option.map_eq_some_iff] at hr
    obtain ⟨r, h5, h6⟩ := hr
    obtain ⟨r', h7, h8⟩ := aIndex_sound (E h1) (E h2) h5 w
    exact same (s := Instr.index t (a.eval x) (a.eval i)) rfl h7 h8 h6
  case range t x =>
    simp only [absOp] at hr
    split at hr <;> try cases hr
    rename_i s h1 hu
    have hb := E h1
    generalize hce : a.eval x = cv at hb
    cases hb
    refine ptr (s := Instr.range t (.string s)) ?_ (aRange_sound h hk hu) rfl
    simp [execOp, hce]
  case next x isS =>
    cases isS <;> simp only [absOp] at hr <;> try cases hr
    simp only [Option.bind_eq_some_iff] at hr
    obtain ⟨u, h1, h2⟩ := hr
    obtain ⟨w', h3, h4, h5, h6⟩ := aNext_sound h (E h1) h2 kk type
    refine ⟨ρ, v, w', val (s := Instr.next (a.eval x) true type) rfl h3, ?_, ?_⟩
    · rw [h5]; exact h4
    · rw [h5]; exact h6
  case extract x i =>
    simp only [absOp, Option.bind_eq_some_iff, Option.map_eq_some_iff] at hr
    obtain ⟨u, h1, r, h2, h3⟩ := hr
    obtain ⟨r', h4, h5⟩ := aExtract_sound (E h1) h2 w
    exact same (s := Instr.extract (a.eval x) i) rfl h4 h5 h3
  case call c =>
    obtain ⟨callee, args, argTypes⟩ := c
    cases callee <;> simp only [absOp] at hr <;> try cases hr
    rename_i b
    simp only [Option.bind_eq_some_iff] at hr
    obtain ⟨vs, h1, h2⟩ := hr
    have r1 := evL_sound h ht h1
    have hargs : args.map a.eval = (args.toList.map a.eval).toArray := by apply Array.ext'; simp
    generalize hts : argTypes.toList = ts at h2
    have hts2 : argTypes = ts.toArray := by rw [← hts]
    clear hts
    subst hts2
    unfold aBuiltin at h2
    split at h2
    · rename_i t x
      simp only [Option.map_eq_some_iff] at h2
      obtain ⟨r, h3, h4⟩ := h2
      obtain ⟨x', t', e3, hx, ht'⟩ := r1.cons_inv
      rw [ht'.nil_inv] at e3
      obtain ⟨h5, h6⟩ := aLen_sound (ty := type) hx h3 w
      refine same (s := Builtin.len_ _ type (args.map a.eval)) rfl ?_ h6 h4
      rw [hargs, e3]
      exact h5
    · rename_i t0 t1 s x
      obtain ⟨s', t', e3, hs, ht'⟩ := r1.cons_inv
      obtain ⟨x', t'', e4, hx, ht''⟩ := ht'.cons_inv
      rw [ht''.nil_inv] at e4
      rw [e4] at e3
      obtain ⟨ρ', v', w', h5, h6, h7⟩ := aAppend_sound h hk (ty := type) hs hx h2
      refine ⟨ρ', v', w', val (s := Builtin.append_ _ type (args.map a.eval)) rfl ?_, h6, h7⟩
      rw [hargs, e3]
      exact h5
    · rename_i t0 t1 d s
      obtain ⟨s', t', e3, hs, ht'⟩ := r1.cons_inv
      obtain ⟨x', t'', e4, hx, ht''⟩ := ht'.cons_inv
      rw [ht''.nil_inv] at e4
      rw [e4] at e3
      obtain ⟨w', h5, h6, h7, h8⟩ := aCopy_sound h (t1 := t1) (ty := type) hs hx h2 kk
      refine ⟨ρ, v, w', val (s := Builtin.copy_ _ type (args.map a.eval)) rfl ?_, ?_, ?_⟩
      · rw [hargs, e3]
        exact h5
      · rw [h7]; exact h6
      · rw [h7]; exact h8
    · rename_i x y
      simp only [Option.map_eq_some_iff] at h2
      obtain ⟨r, h3, h4⟩ := h2
      obtain ⟨s', t', e3, hs, ht'⟩ := r1.cons_inv
      obtain ⟨x', t'', e4, hx, ht''⟩ := ht'.cons_inv
      rw [ht''.nil_inv] at e4
      rw [e4] at e3
      obtain ⟨h5, h6⟩ := aTwo_sound (P := P) hs hx h3 w
      refine same (s := Builtin.min_ _ type (args.map a.eval)) rfl ?_ h6 h4
      rw [hargs, e3]
      simp only [Builtin.min_, List.foldlM_cons, List.foldlM_nil, Sem.run_bind, h5, Result.andThen_ok, Sem.run_pure]
    · rename_i x y
      simp only [Option.map_eq_some_iff] at h2
      obtain ⟨r, h3, h4⟩ := h2
      obtain ⟨s', t', e3, hs, ht'⟩ := r1.cons_inv
      obtain ⟨x', t'', e4, hx, ht''⟩ := ht'.cons_inv
      rw [ht''.nil_inv] at e4
      rw [e4] at e3
      obtain ⟨h5, h6⟩ := aTwo_sound (P := P) hs hx h3 w
      refine same (s := Builtin.max_ _ type (args.map a.eval)) rfl ?_ h6 h4
      rw [hargs, e3]
      simp only [Builtin.max_, List.foldlM_cons, List.foldlM_nil, Sem.run_bind, h5, Result.andThen_ok, Sem.run_pure]
    · rename_i t0 t1 d s
      obtain ⟨s', t', e3, hs, ht'⟩ := r1.cons_inv
      obtain ⟨x', t'', e4, hx, ht''⟩ := ht'.cons_inv
      rw [ht''.nil_inv] at e4
      rw [e4] at e3
      obtain ⟨w', h5, h6, h7, h8⟩ := aUStr_sound h (t1 := t1) (ty := type) hs hx h2 kk
      refine ⟨ρ, v, w', val (s := Builtin.unsafeString_ _ type (args.map a.eval)) rfl ?_, ?_, ?_⟩
      · rw [hargs, e3]
        exact h5
      · rw [h7]; exact h6
      · rw [h7]; exact h8
    · rename_i x
      simp only [Option.map_eq_some_iff] at h2
      obtain ⟨r, h3, h4⟩ := h2
      obtain ⟨x', t', e3, hx, ht'⟩ := r1.cons_inv
      rw [ht'.nil_inv] at e3
      obtain ⟨v', h5, h6⟩ := aUData_sound (P := P) hx h3 ts.toArray type w
      refine same (s := Builtin.unsafeSliceData_ _ type (args.map a.eval)) rfl ?_ h6 h4
      rw [hargs, e3]
      exact h5
    · cases h2
  all_goals (simp only [absOp] at hr; cases hr)
end
end Go.AL
end
/- The library of this session's own, part 12: what a piece of code does to an abstract state: calls, rows of operations. -/
section
namespace Go.AL
open Go

def Mem.alloc (M : Mem) (a : AObj) : Mem := ⟨upd M.get M.next (some a), M.next + 1⟩
def Mem.set (M : Mem) (k : Nat) (a : AObj) : Mem := ⟨upd M.get k (some a), M.next⟩
def Mem.move (M : Mem) (k : Nat) (a : AObj) : Mem := ⟨upd (upd M.get k none) M.next (some a), M.next + 1⟩
def Eff.app (e : Eff) (M : Mem) : Mem :=
  match e with
  | .none => M
  | .new a => M.alloc a
  | .set k a => M.set k a
  | .move k a => M.move k a
structure St where
  tm : List (Nat × Value)
  mem : Mem
def putD (tm : List (Nat × Value)) (d : Option Tmp) (v : Value) : List (Nat × Value) :=
  match d with
  | some d => putL tm d v
  | none => tm

section
variable {P : Program} {G : Nat}

/-- What holds behind a call that began in a known state. -/
def After (P : Program) (G : Nat) (ρ : Nat → BI) (M : Mem) (w : World) (Q : Value → Mem → Prop) (e : Ending) (w' : World) : Prop :=
  ∃ ρ' v v' M', e = .returned v' ∧ Q v M' ∧ VRel ρ' (fun k => k < M'.next) v v' ∧ Step P G ρ M w ρ' M' w'
/-- A call of a function, over the abstract memory. -/
def ACalls (P : Program) (G : Nat) (f : FuncId) (args : List Value) (M : Mem) (Q : Value → Mem → Prop) : Prop :=
  ∀ ρ w (cargs : Array Value), Sim P G ρ M w → LRel ρ (fun k => k < M.next) args cargs.toList → Calls P f cargs w (After P G ρ M w Q)
/-- The same, of what a call's operation makes of it (a function without a body too). -/
def ACallF (P : Program) (G : Nat) (f : FuncId) (args : List Value) (M : Mem) (Q : Value → Mem → Prop) : Prop :=
  ∀ ρ w (cargs : Array Value), Sim P G ρ M w → LRel ρ (fun k => k < M.next) args cargs.toList →
    match (callFunc f cargs).run P w with
    | .ok (.enter f' args') w1 => Calls P f' args' w1 (After P G ρ M w Q)
    | .ok (.value v) w1 => After P G ρ M w Q (.returned v) w1
    | _ => False
theorem After.mono {ρ : Nat → BI} {M : Mem} {w : World} {Q Q' : Value → Mem → Prop} (h : ∀ v M', Q v M' → Q' v M') {e : Ending} {w' : World} (ha : After P G ρ M w Q e w') : After P G ρ M w Q' e w' :=
  let ⟨ρ', v, v', M', h1, h2, h3, h4⟩ := ha; ⟨ρ', v, v', M', h1, h _ _ h2, h3, h4⟩
theorem ACalls.mono {f : FuncId} {args : List Value} {M : Mem} {Q Q' : Value → Mem → Prop} (ha : ACalls P G f args M Q) (h : ∀ v M', Q v M' → Q' v M') : ACalls P G f args M Q' :=
  fun ρ w cargs h1 h2 => (ha ρ w cargs h1 h2).mono fun _ _ => After.mono h
theorem ACallF.mono {f : FuncId} {args : List Value} {M : Mem} {Q Q' : Value → Mem → Prop} (ha : ACallF P G f args M Q) (h : ∀ v M', Q v M' → Q' v M') : ACallF P G f args M Q' := by
  intro ρ w cargs h1 h2
  have := ha ρ w cargs h1 h2
  generalize (callFunc f cargs).run P w = r at this ⊢
  split at this
  · exact Calls.mono this fun _ _ => After.mono h
  · exact After.mono h this
  · exact this.elim
theorem ACalls.callF {f : FuncId} {args : List Value} {M : Mem} {Q : Value → Mem → Prop} {fn : Func} (hf : P.funcs[f]? = some fn) (hb : fn.body.isNone = false) (hn : (fn.name == "runtime.NumGoroutine") = false) (h : ACalls P G f args M Q) : ACallF P G f args M Q := by
  intro ρ w cargs h1 h2
  have : (callFunc f cargs).run P w = .ok (.enter f cargs) w := by simp only [callFunc, Sem.run_bind, run_program, Result.andThen_ok, hf, hn, Bool.false_eq_true, if_false, hb, Sem.run_pure]
  rw [this]
  exact h ρ w cargs h1 h2

/-- One operation, on a state; what comes of it goes on with K. -/
def xOp (P : Program) (G : Nat) (o : Oper) (st : St) (K : St → Prop) : Prop :=
  match o.op with
  | .call ⟨.value x, args, _⟩ =>
    match ev G st.tm x, evL G st.tm args.toList with
    | some (.func (.func f) first captured), some vs => ACallF P G f (first.toList ++ vs ++ captured.toList) st.mem fun v M' => K ⟨putD st.tm o.dst v, M'⟩
    | _, _ => False
  | op =>
    match absOp P G op st.tm st.mem.get st.mem.next with
    | some (v, e) => K ⟨putD st.tm o.dst v, e.app st.mem⟩
    | none => False
/-- Does the guard let the operation run? -/
def wantQ (o : Option Value) (want : Bool) : Option Bool :=
  match o with
  | some (.bool b) => some (b == want)
  | some (.tuple vs) => if vs.size = 0 then some false else none
  | _ => none
def xOps (P : Program) (G : Nat) (ops : List Oper) : List Oper → St → (St → Prop) → Prop
  | [], st, K => K st
  | o :: r, st, K =>
    match o.guard with
    | none => xOp P G o st fun st' => xOps P G ops r st' K
    | some (j, want) =>
      match wantQ (((ops[j]?).bind (·.dst)).bind (look st.tm)) want with
      | some true => xOp P G o st fun st' => xOps P G ops r st' K
      | some false => xOps P G ops r ⟨putD st.tm o.dst undef, st.mem⟩ K
      | none => False

/-- A state, and the machine's frame and world. -/
structure SR (P : Program) (G N : Nat) (ρ : Nat → BI) (st : St) (a : Act) (w : World) : Prop where
  sim : Sim P G ρ st.mem w
  tm : TRel ρ (fun k => k < st.mem.next) st.tm a.tmps
  size : a.tmps.size = N
  defers : a.defers = []

theorem TRel.mono {ρ ρ' : Nat → BI} {S S' : Nat → Prop} (hρ : ∀ k, S k → ρ' k = ρ k) (hS : ∀ k, S k → S' k) {tm : List (Nat × Value)} {tmps : Array Value} (h : TRel ρ S tm tmps) : TRel ρ' S' tm tmps :=
  fun t v hv => let ⟨v', h1, h2⟩ := h t v hv; ⟨v', h1, h2.mono hρ hS⟩
theorem TRel.put {ρ : Nat → BI} {S : Nat → Prop} {tm : List (Nat × Value)} {a : Act} (h : TRel ρ S tm a.tmps) (d : Option Tmp) (hd : ∀ x, d = some x → x < a.tmps.size) {v v' : Value} (hv : VRel ρ S v v') :
    TRel ρ S (putD tm d v) (a.put d v').tmps := by
  cases d with
  | none => exact h
  | some d =>
    intro t u hu
    simp only [putD, look_putL] at hu
    simp only [Act.put]
    have hd' := hd d rfl
    split at hu
    · rename_i e
      subst e
      cases hu
      exact ⟨v', by simp [hd'], hv⟩
    · rename_i e
      obtain ⟨u', h1, h2⟩ := h t u hu
      exact ⟨u', by rw [Array.getElem?_setIfInBounds_ne (fun e' => e e'.symm)]; exact h1, h2⟩
theorem put_size (a : Act) (d : Option Tmp) (v : Value) : (a.put d v).tmps.size = a.tmps.size := by cases d <;> simp [Act.put]
theorem put_defers (a : Act) (d : Option Tmp) (v : Value) : (a.put d v).defers = a.defers := by cases d <;> rfl

theorem Eff.app_get (e : Eff) (M : Mem) : (e.app M).get = e.get M.next M.get := by cases e <;> rfl
theorem Eff.app_S (e : Eff) (M : Mem) (k : Nat) : k < (e.app M).next ↔ e.S M.next (fun k => k < M.next) k := by
  cases e <;> simp only [Eff.app, Eff.S, Mem.alloc, Mem.set, Mem.move] <;> omega
theorem Eff.app_S' (e : Eff) (M : Mem) : (fun k => k < (e.app M).next) = e.S M.next (fun k => k < M.next) := funext fun k => propext (e.app_S M k)

theorem absOp_step {N : Nat} {ρ : Nat → BI} {st : St} {a : Act} {w : World} (h : SR P G N ρ st a w) {o : Oper} (hd : ∀ x, o.dst = some x → x < N) {v : Value} {e : Eff} (hr : absOp P G o.op st.tm st.mem.get st.mem.next = some (v, e)) :
    ∃ ρ' v' w', Goes P a o w v' w' ∧ SR P G N ρ' ⟨putD st.tm o.dst v, e.app st.mem⟩ (a.put o.dst v') w' ∧ Step P G ρ st.mem w ρ' (e.app st.mem) w' := by
  obtain ⟨ρ', v', w', h1, h2, h3⟩ := absOp_sound h.sim (Nat.lt_irrefl _) h.tm hr
  have hs : Step P G ρ st.mem w ρ' (e.app st.mem) w' := by
    unfold Step
    rw [Eff.app_S', Eff.app_get]
    exact h3
  refine ⟨ρ', v', w', h1, ⟨hs.sim, ?_, by rw [put_size]; exact h.size, by rw [put_defers]; exact h.defers⟩, hs⟩
  refine TRel.put (TRel.mono hs.rho hs.know h.tm) o.dst (by rw [h.size]; exact hd) ?_
  rw [Eff.app_S']
  exact h2

theorem xOp_sound {N : Nat} {ρ : Nat → BI} {st : St} {a : Act} {w : World} (h : SR P G N ρ st a w) {o : Oper} (hd : ∀ x, o.dst = some x → x < N) {K : St → Prop} (hx : xOp P G o st K)
    {next : Act → World → Prop} {Q : Exit → Act → World → Prop} (hK : ∀ ρ' st' a' w', K st' → SR P G N ρ' st' a' w' → Step P G ρ st.mem w ρ' st'.mem w' → next a' w') : o.wp P a w next Q := by
  unfold Oper.wp
  have plain : ∀ {v e}, absOp P G o.op st.tm st.mem.get st.mem.next = some (v, e) → K ⟨putD st.tm o.dst v, e.app st.mem⟩ → o.upon P a next Q ((execOp a.eval o).run P w) := by
    intro v e hr hk
    obtain ⟨ρ', v', w', h1, h2, h3⟩ := absOp_step h hd hr
    rcases h1 with h1 | ⟨h1, rfl⟩
    · rw [h1, Oper.upon_value]; exact hK _ _ _ _ hk h2 h3
    · rw [h1, Oper.upon_skip]; exact hK _ _ _ _ hk h2 h3
  unfold xOp at hx
  split at hx
  · rename_i x args ts hop
    split at hx <;> try exact hx.elim
    rename_i f first captured vs hx1 hx2
    have r1 := ev_sound h.sim h.tm hx1
    have r2 := evL_sound h.sim h.tm hx2
    obtain ⟨first', captured', e1, hf, hc⟩ := r1.func_iff
    have hargs : args.map a.eval = (args.toList.map a.eval).toArray := by apply Array.ext'; simp
    have hexec : (execOp a.eval o).run P w = (callFunc f (first' ++ args.map a.eval ++ captured')).run P w := by
      simp only [execOp, hop, resolve, e1, Deferred.ofValue, Sem.run_bind, Sem.run_pure, Result.andThen_ok, invoke]
    rw [hexec]
    have hcall := hx ρ w (first' ++ args.map a.eval ++ captured') h.sim (by
      rw [hargs]
      simp only [Array.toList_append]
      exact (hf.append r2).append hc)
    have fin : ∀ {e w1}, After P G ρ st.mem w (fun v M' => K ⟨putD st.tm o.dst v, M'⟩) e w1 → ∃ v', e = .returned v' ∧ next (a.put o.dst v') w1 := by
      rintro e w1 ⟨ρ', v, v', M', rfl, hk, hv, hs⟩
      refine ⟨v', rfl, hK ρ' _ _ _ hk ⟨hs.sim, ?_, by rw [put_size]; exact h.size, by rw [put_defers]; exact h.defers⟩ hs⟩
      exact TRel.put (TRel.mono hs.rho hs.know h.tm) o.dst (by rw [h.size]; exact hd) hv
    generalize (callFunc f (first' ++ args.map a.eval ++ captured')).run P w = r at hcall ⊢
    split at hcall
    · rename_i f' args' w1
      rw [Oper.upon_enter]
      refine Calls.mono hcall fun e w2 he => ?_
      obtain ⟨v', rfl, hn⟩ := fin he
      exact hn
    · rename_i v0 w1
      rw [Oper.upon_value]
      obtain ⟨v', e2, hn⟩ := fin hcall
      cases e2
      exact hn
    · exact hcall.elim
  · split at hx
    · rename_i v e hr
      exact plain hr hx
    · exact hx.elim

theorem wantQ_sound {ρ : Nat → BI} {S : Nat → Prop} {tm : List (Nat × Value)} {tmps : Array Value} (h : TRel ρ S tm tmps) {ops : Array Oper} {o : Oper} {j : Nat} {want r : Bool} (hg : o.guard = some (j, want))
    (hw : wantQ (((ops.toList[j]?).bind (·.dst)).bind (look tm)) want = some r) : Region.wanted o (yielded ops tmps) = r := by
  generalize hv : ((ops.toList[j]?).bind (·.dst)).bind (look tm) = ov at hw
  cases ov with
  | none => cases hw
  | some v =>
    simp only [Option.bind_eq_some_iff] at hv
    obtain ⟨d, ⟨oj, hj, hdj⟩, hlook⟩ := hv
    obtain ⟨v', hv1, hv2⟩ := h d _ hlook
    have hoj : ops[j]? = some oj := by simpa using hj
    cases v <;> simp only [wantQ] at hw <;> try (cases hw; done)
    · cases hv2
      cases hw
      rename_i b
      simp only [Region.wanted, hg, yielded, hoj, Option.bind_some, hdj, hv1]
      cases b <;> cases want <;> rfl
    · split at hw <;> cases hw
      cases hv2
      simp [Region.wanted, hg, yielded, hoj, hdj, hv1]
theorem xOps_sound {N : Nat} (ops : Array Oper) (hd : ∀ o ∈ ops.toList, ∀ x, o.dst = some x → x < N) : ∀ (rest : List Oper) (i : Nat), ops.toList.drop i = rest → ∀ {ρ : Nat → BI} {st : St} {a : Act} {w : World}, SR P G N ρ st a w → ∀ {K : St → Prop}, xOps P G ops.toList rest st K →
    ∀ {Q : Exit → Act → World → Prop}, (∀ ρ' st' a' w', K st' → SR P G N ρ' st' a' w' → Step P G ρ st.mem w ρ' st'.mem w' → Q .normal a' w') → wpOps P ops Q (List.range' i rest.length) a w
  | [], i, _, ρ, st, a, w, h, K, hx, Q, hK => hK ρ st a w hx h (Step.refl h.sim)
  | o :: rest, i, hi, ρ, st, a, w, h, K, hx, Q, hK => by
    have hlt : i < ops.toList.length := by
      rcases Nat.lt_or_ge i ops.toList.length with hlt | hge
      · exact hlt
      · rw [List.drop_eq_nil_of_le hge] at hi; cases hi
    rw [List.drop_eq_getElem_cons hlt] at hi
    simp only [List.cons.injEq] at hi
    obtain ⟨ho, hrest⟩ := hi
    have hoi : ops[i]? = some o := by
      rw [← ho]
      simp only [Array.length_toList] at hlt
      simp [hlt]
    have hmem : o ∈ ops.toList := by rw [← ho]; exact List.getElem_mem hlt
    have go : ∀ {st' : St} {ρ' : Nat → BI} {a' : Act} {w' : World}, xOps P G ops.toList rest st' K → SR P G N ρ' st' a' w' → Step P G ρ st.mem w ρ' st'.mem w' → wpOps P ops Q (List.range' (i + 1) rest.length) a' w' := by
      intro st' ρ' a' w' h1 h2 h3
      exact xOps_sound ops hd rest (i + 1) hrest h2 h1 fun ρ2 st2 a2 w2 k1 k2 k3 => hK ρ2 st2 a2 w2 k1 k2 (h3.trans k3)
    simp only [List.length_cons, List.range'_succ, wpOps, hoi]
    simp only [xOps] at hx
    split at hx
    · rename_i hg
      have hw : Region.wanted o (yielded ops a.tmps) = true := by simp [Region.wanted, hg]
      rw [if_pos hw]
      exact .inl (xOp_sound h (hd o hmem) hx fun ρ' st' a' w' k1 k2 k3 => go k1 k2 k3)
    · rename_i j want hg
      split at hx <;> try exact hx.elim
      · rename_i hwq
        rw [if_pos (wantQ_sound h.tm hg hwq)]
        exact .inl (xOp_sound h (hd o hmem) hx fun ρ' st' a' w' k1 k2 k3 => go k1 k2 k3)
      · rename_i hwq
        rw [if_neg (by rw [wantQ_sound h.tm hg hwq]; simp)]
        exact go hx ⟨h.sim, TRel.put h.tm o.dst (by rw [h.size]; exact hd o hmem) undef_rel, by rw [put_size]; exact h.size, by rw [put_defers]; exact h.defers⟩ (Step.refl h.sim)
end
end Go.AL
end
/- The library of this session's own, part 13: what a piece of code does to an abstract state: the forms of code, loops, jumps, a function's body. -/
section
namespace Go.AL
open Go

/-- All slots that a code writes are below a bound. -/
def okCode (N : Nat) : Code → Bool
  | .region _ ops _ => ops.toList.all fun o => match o.dst with
    | some d => decide (d < N)
    | none => true
  | .seq a b => okCode N a && okCode N b
  | .cond _ a b => okCode N a && okCode N b
  | .block _ b => okCode N b
  | .loop b => okCode N b
  | .scope b => okCode N b
  | .rangeFunc .. => false
  | _ => true

section
variable {P : Program} {G N : Nat}

/-- Behind a piece of code. -/
def Post (P : Program) (G N : Nat) (ρ : Nat → BI) (st : St) (w : World) (Q : Exit → St → Prop) (e : Exit) (a' : Act) (w' : World) : Prop :=
  ∃ ρ' st', Q e st' ∧ SR P G N ρ' st' a' w' ∧ Step P G ρ st.mem w ρ' st'.mem w'
def ACode (P : Program) (G N : Nat) (c : Code) (st : St) (Q : Exit → St → Prop) : Prop :=
  ∀ ρ w a, SR P G N ρ st a w → c.wp P (Post P G N ρ st w Q) a w
/-- The rounds of a loop, from the head of one on. -/
def ALoop (P : Program) (G N : Nat) (c : Code) (st : St) (Q : Exit → St → Prop) : Prop :=
  ∀ ρ w a, SR P G N ρ st a w → ∀ (b : Frame) (k : List Item) (cs : List Frame), ∃ e a' w', Post P G N ρ st w Q e a' w' ∧ Arrives P (lone (b.at a (.code c :: .inLoop c :: k)) cs w) b k cs e a' w'
/-- A piece of code within the scope of labels. -/
def AScope (P : Program) (G N : Nat) (body c : Code) (st : St) (Q : Exit → St → Prop) : Prop :=
  ∀ ρ w a, SR P G N ρ st a w → ∀ (b : Frame) (k : List Item) (cs : List Frame), ∃ e a' w', Post P G N ρ st w Q e a' w' ∧ Arrives P (lone (b.at a (.code c :: .inScope body :: k)) cs w) b k cs e a' w'

theorem Post.mono {ρ : Nat → BI} {st : St} {w : World} {Q Q' : Exit → St → Prop} (h : ∀ e st', Q e st' → Q' e st') {e : Exit} {a' : Act} {w' : World} (hp : Post P G N ρ st w Q e a' w') : Post P G N ρ st w Q' e a' w' :=
  let ⟨ρ', st', h1, h2, h3⟩ := hp; ⟨ρ', st', h _ _ h1, h2, h3⟩
theorem Post.from {ρ ρ1 : Nat → BI} {st st1 : St} {w w1 : World} {Q : Exit → St → Prop} (hs : Step P G ρ st.mem w ρ1 st1.mem w1) {e : Exit} {a' : Act} {w' : World} (hp : Post P G N ρ1 st1 w1 Q e a' w') : Post P G N ρ st w Q e a' w' :=
  let ⟨ρ', st', h1, h2, h3⟩ := hp; ⟨ρ', st', h1, h2, hs.trans h3⟩
theorem ACode.mono {c : Code} {st : St} {Q Q' : Exit → St → Prop} (hc : ACode P G N c st Q) (h : ∀ e st', Q e st' → Q' e st') : ACode P G N c st Q' :=
  fun ρ w a hr => wp_mono (hc ρ w a hr) fun _ _ _ => Post.mono h
theorem ALoop.mono {c : Code} {st : St} {Q Q' : Exit → St → Prop} (hc : ALoop P G N c st Q) (h : ∀ e st', Q e st' → Q' e st') : ALoop P G N c st Q' :=
  fun ρ w a hr b k cs => let ⟨e, a', w', h1, h2⟩ := hc ρ w a hr b k cs; ⟨e, a', w', h1.mono h, h2⟩
theorem AScope.mono {body c : Code} {st : St} {Q Q' : Exit → St → Prop} (hc : AScope P G N body c st Q) (h : ∀ e st', Q e st' → Q' e st') : AScope P G N body c st Q' :=
  fun ρ w a hr b k cs => let ⟨e, a', w', h1, h2⟩ := hc ρ w a hr b k cs; ⟨e, a', w', h1.mono h, h2⟩

/-- What a state knows less than another. -/
def St.le (s t : St) : Prop := (∀ x v, look s.tm x = some v → look t.tm x = some v) ∧ s.mem.next = t.mem.next ∧ ∀ k o, s.mem.get k = some o → t.mem.get k = some o
theorem SR.less {ρ : Nat → BI} {s t : St} {a : Act} {w : World} (h : SR P G N ρ t a w) (hl : s.le t) : SR P G N ρ s a w ∧ Step P G ρ t.mem w ρ s.mem w := by
  obtain ⟨h1, h2, h3⟩ := hl
  have hs := StepS.sub h.sim s.mem.get h3
  have hs' : Step P G ρ t.mem w ρ s.mem w := by unfold Step; rw [h2]; exact hs
  refine ⟨⟨hs'.sim, ?_, h.size, h.defers⟩, hs'⟩
  intro x v hv
  rw [h2]
  exact h.tm x v (h1 x v hv)
theorem ACode.less {c : Code} {s t : St} {Q : Exit → St → Prop} (hl : s.le t) (h : ACode P G N c s Q) : ACode P G N c t Q := by
  intro ρ w a hr
  obtain ⟨h1, h2⟩ := hr.less hl
  exact wp_mono (h ρ w a h1) fun _ _ _ => Post.from h2
theorem ALoop.less {c : Code} {s t : St} {Q : Exit → St → Prop} (hl : s.le t) (h : ALoop P G N c s Q) : ALoop P G N c t Q := by
  intro ρ w a hr b k cs
  obtain ⟨h1, h2⟩ := hr.less hl
  obtain ⟨e, a', w', h3, h4⟩ := h ρ w a h1 b k cs
  exact ⟨e, a', w', h3.from h2, h4⟩
theorem AScope.less {body c : Code} {s t : St} {Q : Exit → St → Prop} (hl : s.le t) (h : AScope P G N body c s Q) : AScope P G N body c t Q := by
  intro ρ w a hr b k cs
  obtain ⟨h1, h2⟩ := hr.less hl
  obtain ⟨e, a', w', h3, h4⟩ := h ρ w a h1 b k cs
  exact ⟨e, a', w', h3.from h2, h4⟩

/-- What a region that draws its order does (told by its own theorem). -/
def ADraw (P : Program) (G N : Nat) (id : Nat) (ops : Array Oper) (st : St) (K : St → Prop) : Prop :=
  ACode P G N (.region id ops true) st fun e st' => match e with
    | .normal => K st'
    | _ => False

def thenQ (Q : Exit → St → Prop) (next : St → Prop) (e : Exit) (st : St) : Prop :=
  match e with
  | .normal => next st
  | e => Q e st
def blockQ (Q : Exit → St → Prop) (id : Nat) (e : Exit) (st : St) : Prop :=
  match e with
  | .exit id' => if id' = id then Q .normal st else Q (.exit id') st
  | e => Q e st
def xCode (P : Program) (G N : Nat) : Code → St → (Exit → St → Prop) → Prop
  | .skip, st, Q => Q .normal st
  | .region _ ops false, st, Q => xOps P G ops.toList ops.toList st (Q .normal)
  | .region id ops true, st, Q => ADraw P G N id ops st (Q .normal)
  | .seq a b, st, Q => xCode P G N a st (thenQ Q fun st' => xCode P G N b st' Q)
  | .cond c a b, st, Q =>
    match ev G st.tm c with
    | some (.bool t) => (t = true → xCode P G N a st Q) ∧ (t = false → xCode P G N b st Q)
    | _ => False
  | .block id b, st, Q => xCode P G N b st (blockQ Q id)
  | .loop b, st, Q => ALoop P G N b st Q
  | .scope b, st, Q => AScope P G N b b st Q
  | .exit id, st, Q => Q (.exit id) st
  | .ret, st, Q => Q .ret st
  | .goto l, st, Q => Q (.goto l) st
  | .label _, st, Q => Q .normal st
  | _, _, _ => False

theorem post_refl {ρ : Nat → BI} {st : St} {a : Act} {w : World} {Q : Exit → St → Prop} {e : Exit} (hr : SR P G N ρ st a w) (h : Q e st) : Post P G N ρ st w Q e a w := ⟨ρ, st, h, hr, Step.refl hr.sim⟩

theorem xCode_sound : ∀ (c : Code), okCode N c = true → ∀ {st : St} {Q : Exit → St → Prop}, xCode P G N c st Q → ACode P G N c st Q := by
  intro c
  induction c with
  | skip => intro _ st Q h ρ w a hr; exact wp_skip (post_refl hr h)
  | region id ops draw =>
    intro hok st Q h ρ w a hr
    cases draw with
    | false =>
      have hd : ∀ o ∈ ops.toList, ∀ x, o.dst = some x → x < N := by
        intro o ho x hx
        simp only [okCode, List.all_eq_true] at hok
        have := hok o ho
        simpa [hx] using this
      have := xOps_sound (P := P) (G := G) ops hd ops.toList 0 (by simp) hr h (Q := Post P G N ρ st w Q) fun ρ' st' a' w' k1 k2 k3 => ⟨ρ', st', k1, k2, k3⟩
      rw [Array.length_toList, ← List.range_eq_range'] at this
      exact wp_region this
    | true =>
      refine wp_mono (h ρ w a hr) fun e a' w' hp => ?_
      obtain ⟨ρ', st', h1, h2, h3⟩ := hp
      cases e <;> simp only at h1
      exact ⟨ρ', st', h1, h2, h3⟩
  | seq x y ihx ihy =>
    intro hok st Q h ρ w a hr
    simp only [okCode, Bool.and_eq_true] at hok
    refine wp_seq (wp_mono (ihx hok.1 h ρ w a hr) fun e a' w' hp => ?_)
    obtain ⟨ρ', st', h1, h2, h3⟩ := hp
    cases e
    case normal => exact wp_mono (ihy hok.2 h1 ρ' w' a' h2) fun _ _ _ => Post.from h3
    all_goals exact ⟨ρ', st', h1, h2, h3⟩
  | cond c x y ihx ihy =>
    intro hok st Q h ρ w a hr
    simp only [okCode, Bool.and_eq_true] at hok
    simp only [xCode] at h
    split at h <;> try exact h.elim
    rename_i t hc
    have hb := ev_sound hr.sim hr.tm hc
    generalize hce : a.eval c = cv at hb
    cases hb
    refine wp_cond hce ?_
    cases t
    · exact ihy hok.2 (h.2 rfl) ρ w a hr
    · exact ihx hok.1 (h.1 rfl) ρ w a hr
  | block id b ih =>
    intro hok st Q h ρ w a hr
    refine wp_block (wp_mono (ih hok h ρ w a hr) fun e a' w' hp => ?_)
    obtain ⟨ρ', st', h1, h2, h3⟩ := hp
    cases e
    case exit id' =>
      simp only [blockQ] at h1
      simp only [Exit.inBlock]
      split at h1
      · rename_i hid; rw [if_pos hid]; exact ⟨ρ', st', h1, h2, h3⟩
      · rename_i hid; rw [if_neg hid]; exact ⟨ρ', st', h1, h2, h3⟩
    all_goals exact ⟨ρ', st', h1, h2, h3⟩
  | loop b ih =>
    intro _ st Q h ρ w a hr bf k cs
    obtain ⟨e, a', w', h1, h2⟩ := h ρ w a hr bf k cs
    exact ⟨e, a', w', h1, .of_steps (.one step_loop) h2⟩
  | scope b ih =>
    intro _ st Q h ρ w a hr bf k cs
    obtain ⟨e, a', w', h1, h2⟩ := h ρ w a hr bf k cs
    exact ⟨e, a', w', h1, .of_steps (.one step_scope) h2⟩
  | exit id => intro _ st Q h ρ w a hr; exact wp_exit (post_refl hr h)
  | label l => intro _ st Q h ρ w a hr; exact wp_label (post_refl hr h)
  | goto l => intro _ st Q h ρ w a hr; exact wp_goto (post_refl hr h)
  | ret => intro _ st Q h ρ w a hr; exact wp_ret (post_refl hr h)
  | rangeFunc f ps x y _ _ => intro _ st Q h; exact h.elim
  | refuse why => intro _ st Q h; exact h.elim

/-- One round of a loop, and the rest. -/
theorem ALoop.round {c : Code} (hok : okCode N c = true) {st : St} {Q : Exit → St → Prop} (h : xCode P G N c st (thenQ Q fun st' => ALoop P G N c st' Q)) : ALoop P G N c st Q := by
  intro ρ w a hr b k cs
  obtain ⟨e, a₁, w₁, ⟨ρ', st', h1, h2, h3⟩, harr⟩ := xCode_sound c hok h ρ w a hr b (.inLoop c :: k) cs
  cases e with
  | normal =>
    obtain ⟨e₂, a₂, w₂, hq₂, harr₂⟩ := h1 ρ' w₁ a₁ h2 b k cs
    exact ⟨e₂, a₂, w₂, hq₂.from h3, .of_steps (Steps.trans harr (.one step_inLoop)) harr₂⟩
  | exit id => exact ⟨_, a₁, w₁, ⟨ρ', st', h1, h2, h3⟩, .pass (x := .inLoop c) rfl (fun _ _ => .inl (by simp)) harr⟩
  | goto l => exact ⟨_, a₁, w₁, ⟨ρ', st', h1, h2, h3⟩, .pass (x := .inLoop c) rfl (fun _ _ => .inl (by simp)) harr⟩
  | ret => exact ⟨_, a₁, w₁, ⟨ρ', st', h1, h2, h3⟩, .pass (x := .inLoop c) rfl (fun _ _ => .inl (by simp)) harr⟩
  | panic ch => exact ⟨_, a₁, w₁, ⟨ρ', st', h1, h2, h3⟩, .pass (x := .inLoop c) rfl (fun _ _ => .inl (by simp)) harr⟩
  | outgrown => exact ⟨_, a₁, w₁, ⟨ρ', st', h1, h2, h3⟩, .pass (x := .inLoop c) rfl (fun _ _ => .inl (by simp)) harr⟩

def scopeQ (P : Program) (G N : Nat) (body : Code) (Q : Exit → St → Prop) (e : Exit) (st : St) : Prop :=
  match e with
  | .goto l =>
    match findLabel body l with
    | some rest => AScope P G N body rest st Q
    | none => Q (.goto l) st
  | e => Q e st
/-- A piece of code up to a jump, and what stands at the label. -/
theorem AScope.go {body c : Code} (hok : okCode N c = true) {st : St} {Q : Exit → St → Prop} (h : xCode P G N c st (scopeQ P G N body Q)) : AScope P G N body c st Q := by
  intro ρ w a hr b k cs
  obtain ⟨e, a₁, w₁, ⟨ρ', st', h1, h2, h3⟩, harr⟩ := xCode_sound c hok h ρ w a hr b (.inScope body :: k) cs
  cases e with
  | normal => exact ⟨.normal, a₁, w₁, ⟨ρ', st', h1, h2, h3⟩, Steps.trans harr (.one step_inScope)⟩
  | exit id => exact ⟨_, a₁, w₁, ⟨ρ', st', h1, h2, h3⟩, fun k' hk => harr k' (by simpa [exitTo] using hk)⟩
  | goto l =>
    simp only [scopeQ] at h1
    split at h1
    · rename_i rest hl
      obtain ⟨e₂, a₂, w₂, hq₂, harr₂⟩ := h1 ρ' w₁ a₁ h2 b k cs
      exact ⟨e₂, a₂, w₂, hq₂.from h3, .of_steps (harr _ (by simp [gotoIn, hl])) harr₂⟩
    · rename_i hl
      exact ⟨_, a₁, w₁, ⟨ρ', st', h1, h2, h3⟩, fun k' hk => harr k' (by simpa [gotoIn, hl] using hk)⟩
  | ret => exact ⟨_, a₁, w₁, ⟨ρ', st', h1, h2, h3⟩, harr⟩
  | panic ch => exact ⟨_, a₁, w₁, ⟨ρ', st', h1, h2, h3⟩, harr⟩
  | outgrown => exact ⟨_, a₁, w₁, ⟨ρ', st', h1, h2, h3⟩, harr⟩

-- a function's body
def initL : List Value → Nat → List (Nat × Value)
  | [], _ => []
  | v :: r, i => (i, v) :: initL r (i + 1)
theorem initL_look : ∀ (l : List Value) (i t : Nat) (v : Value), look (initL l i) t = some v → i ≤ t ∧ l[t - i]? = some v
  | [], i, t, v, h => by simp [initL, look] at h
  | u :: l, i, t, v, h => by
    simp only [initL, look] at h
    split at h
    · rename_i e; cases h; subst e; exact ⟨Nat.le_refl _, by simp⟩
    · rename_i e
      obtain ⟨h1, h2⟩ := initL_look l (i + 1) t v h
      refine ⟨by omega, ?_⟩
      rw [show t - i = (t - (i + 1)) + 1 by omega]
      simpa using h2
/-- The results of a function, out of its slots. -/
def resL (P : Program) (tm : List (Nat × Value)) (M : Mem) : List ResultVar → Option (List Value)
  | [] => some []
  | .tmp t :: r =>
    match look tm t, resL P tm M r with
    | some v, some l => some (v :: l)
    | _, _ => none
  | .cell a t :: r =>
    match (look tm a).bind (aLoad P t M.get), resL P tm M r with
    | some v, some l => some (v :: l)
    | _, _ => none
def res1 : List Value → Value
  | [v] => v
  | l => .tuple l.toArray
def resV (P : Program) (fn : Func) (st : St) : Option Value := (resL P st.tm st.mem fn.results.toList).map res1

def resF (tmps : Array Value) : ResultVar → Sem Value
  | .tmp t => pure (tmps.getD t undef)
  | .cell b t => do loadVar t (← asAddr (tmps.getD b undef))
theorem resL_sound {ρ : Nat → BI} {st : St} {a : Act} {w : World} (hr : SR P G N ρ st a w) : ∀ {l : List ResultVar} {vs : List Value}, resL P st.tm st.mem l = some vs →
    ∃ vs', (l.mapM (resF a.tmps)).run P w = .ok vs' w ∧ LRel ρ (fun k => k < st.mem.next) vs vs'
  | [], vs, h => by simp only [resL] at h; cases h; exact ⟨[], rfl, .nil⟩
  | .tmp t :: l, vs, h => by
    simp only [resL] at h
    split at h <;> cases h
    rename_i h1 h2
    obtain ⟨v', hv, hrel⟩ := hr.tm t _ h1
    obtain ⟨vs', h3, h4⟩ := resL_sound hr h2
    refine ⟨v' :: vs', ?_, .cons hrel h4⟩
    simp only [List.mapM_cons, resF, Sem.run_bind, Sem.run_pure, Result.andThen_ok, h3]
    simp [hv]
  | .cell b t :: l, vs, h => by
    simp only [resL] at h
    split at h <;> cases h
    rename_i h1 h2
    simp only [Option.bind_eq_some_iff] at h1
    obtain ⟨u, hu, h1⟩ := h1
    obtain ⟨u', hv, hrel⟩ := hr.tm b _ hu
    obtain ⟨vs', h3, h4⟩ := resL_sound hr h2
    obtain ⟨r', h5, h6⟩ := aLoad_sound hr.sim hrel h1
    refine ⟨r' :: vs', ?_, .cons h6 h4⟩
    have hg : a.tmps.getD b undef = u' := by simp [hv]
    have h7 : (do loadVar t (← asAddr u') : Sem Value).run P w = .ok r' w := by
      cases hrel <;> simp only [aLoad] at h1 <;> try cases h1
      exact h5
    simp only [List.mapM_cons, resF, hg]
    rw [Sem.run_bind, h7]
    simp only [Result.andThen_ok, Sem.run_bind, h3, Sem.run_pure]
theorem resV_sound {ρ : Nat → BI} {st : St} {a : Act} {w : World} (hr : SR P G N ρ st a w) {fn : Func} {v : Value} (h : resV P fn st = some v) :
    ∃ v', (results fn a.tmps).run P w = .ok v' w ∧ VRel ρ (fun k => k < st.mem.next) v v' := by
  unfold resV at h
  simp only [Option.map_eq_some_iff] at h
  obtain ⟨vs, h1, rfl⟩ := h
  obtain ⟨vs', h2, h3⟩ := resL_sound hr h1
  have hrun : (results fn a.tmps).run P w = .ok (if h : vs'.toArray.size = 1 then vs'.toArray[0] else .tuple vs'.toArray) w := by
    have e : results fn a.tmps = (do let vs ← fn.results.mapM (resF a.tmps); pure (if h : vs.size = 1 then vs[0] else .tuple vs)) := rfl
    rw [e]
    simp only [Sem.run_bind]
    rw [Array.mapM_eq_mapM_toList, Sem.run_map, h2]
    rfl
  refine ⟨_, hrun, ?_⟩
  match vs, vs', h3 with
  | [v], vs', h3 =>
    obtain ⟨v', t', rfl, hv, ht⟩ := h3.cons_inv
    rw [ht.nil_inv]
    exact hv
  | [], vs', h3 => rw [h3.nil_inv]; exact .of_tuple .nil
  | v :: u :: r, vs', h3 =>
    have h4 := h3
    obtain ⟨v', t', rfl, hv, ht⟩ := h3.cons_inv
    obtain ⟨u', t'', rfl, hu, ht'⟩ := ht.cons_inv
    rw [dif_neg (by simp)]
    exact .of_tuple (by simpa using h4)

/-- Values whose addresses were known before stay within what was known. -/
theorem VRel.narrow {ρ ρ' : Nat → BI} {S S' : Nat → Prop} {v u v' : Value} (h : VRel ρ' S' v v') : VRel ρ S v u → VRel ρ' S v v' := by
  intro h0
  induction h generalizing u with
  | bool b => exact .bool b
  | int k i => exact .int k i
  | string s => exact .string s
  | ptrNil => exact .ptrNil
  | ptr k off h => cases h0; exact .ptr k off (by assumption)
  | sliceNil => exact .sliceNil
  | slice k off off' len cap cap' h hl hc ho hx => obtain ⟨_, _, _, hS, _⟩ := h0.slice_inv; exact .slice k off off' len cap cap' hS hl hc ho hx
  | sliceEmpty a => exact .sliceEmpty a
  | func f a a' b b' h1 h2 _ _ i3 i4 =>
    obtain ⟨c, d, rfl, hc, hd⟩ := h0.func_iff
    exact .func f _ _ _ _ h1 h2 (fun i x y => i3 i x y (by have := hc.2 i (by simpa using x) (by have := hc.1; simp at this; simp; omega); simpa only [Array.getElem_toList] using this))
      (fun i x y => i4 i x y (by have := hd.2 i (by simpa using x) (by have := hd.1; simp at this; simp; omega); simpa only [Array.getElem_toList] using this))
  | nilFunc => exact .nilFunc
  | mapNil => exact .mapNil
  | chanNil => exact .chanNil
  | iface t v v' _ ih => cases h0; exact .iface t _ _ (ih (by assumption))
  | nilIface => exact .nilIface
  | agg cs cs' hs _ ih =>
    obtain ⟨d, rfl, hd⟩ := h0.agg_iff
    exact .agg _ _ hs fun i x y => ih i x y (by have := hd.2 i (by simpa using x) (by have := hd.1; simp at this; simp; omega); simpa only [Array.getElem_toList] using this)
  | tuple cs cs' hs _ ih =>
    obtain ⟨d, rfl, hd⟩ := h0.tuple_iff
    exact .tuple _ _ hs fun i x y => ih i x y (by have := hd.2 i (by simpa using x) (by have := hd.1; simp at this; simp; omega); simpa only [Array.getElem_toList] using this)
theorem LRel.narrow {ρ ρ' : Nat → BI} {S S' : Nat → Prop} {l m l' : List Value} (h : LRel ρ' S' l l') (h0 : LRel ρ S l m) : LRel ρ' S l l' :=
  ⟨h.1, fun i a b => (h.2 i a b).narrow (h0.2 i a (by have := h0.1; omega))⟩

/-- Behind a call all that was known is as it was: then nothing else need be known. -/
theorem Step.back {ρ ρ' : Nat → BI} {M M' : Mem} {w w' : World} (h0 : Sim P G ρ M w) (h : Step P G ρ M w ρ' M' w') (hs : ∀ k o, M.get k = some o → M'.get k = some o) : Step P G ρ M w ρ' M w' where
  sim := by
    refine ⟨h.sim.glob, h0.globs, h0.live, fun k k' o o' h1 h2 => h.sim.inj k k' o o' (hs _ _ h1) (hs _ _ h2), fun k a hk => ?_⟩
    obtain ⟨o, h1, h2⟩ := h.sim.objs k a (hs _ _ hk)
    refine ⟨o, h1, ?_⟩
    obtain ⟨o0, _, h3⟩ := h0.objs k a hk
    cases a with
    | cells cs e fz ro =>
      obtain ⟨c, fr, e1, e2, e3, e4, e5, e6⟩ := h2
      obtain ⟨c0, fr0, f1, f2, f3, f4, f5, f6⟩ := h3
      exact ⟨c, fr, e1, e2, e3, e4, e5.narrow f5, e6⟩
    | iter s pos => exact h2
  rho := h.rho
  know := fun _ h => h
  os := h.os
  tape := h.tape
  output := h.output
  size := h.size
  frame := h.frame
  old := fun k o hk _ => ⟨o, hk, id⟩
  new := fun k o hk hn => absurd (h0.live k o hk) hn

/-- What may be said of a call's end: less is known; or all is as it was, and the value has no address. -/
inductive Fin (M0 M1 : Mem) (v : Value) : Mem → Prop
  | less (M2 : Mem) (h1 : M2.next = M1.next) (h2 : ∀ k o, M2.get k = some o → M1.get k = some o) : Fin M0 M1 v M2
  | same (hv : flatV v = true) (h : ∀ k o, M0.get k = some o → M1.get k = some o) : Fin M0 M1 v M0

def retQ (P : Program) (fn : Func) (M0 : Mem) (Q : Value → Mem → Prop) (e : Exit) (st : St) : Prop :=
  match e with
  | .normal | .ret => ∃ v M2, resV P fn st = some v ∧ Fin M0 st.mem v M2 ∧ Q v M2
  | _ => False

theorem ACalls.body {f : FuncId} {fn : Func} {c : Code} {args : List Value} {M : Mem} {Q : Value → Mem → Prop} (hf : P.funcs[f]? = some fn) (hb : fn.body = some c) (hN : args.length + (fn.ntmps - args.length) = N) (hok : okCode N c = true)
    (h : xCode P G N c ⟨initL args 0, M⟩ (retQ P fn M Q)) : ACalls P G f args M Q := by
  intro ρ w cargs h1 h2
  refine calls_of_wp hf hb (wp_mono (xCode_sound c hok h ρ w _ ⟨h1, ?_, ?_, rfl⟩) ?_)
  · intro t v hv
    obtain ⟨_, h3⟩ := initL_look args 0 t v hv
    obtain ⟨v', h4, h5⟩ := h2.get h3
    have hlt := (List.getElem?_eq_some_iff.1 h4).1
    refine ⟨v', ?_, h5⟩
    simp only [Array.length_toList] at hlt
    rw [Array.getElem?_append_left (by omega)]
    simpa using h4
  · have := h2.1
    simp only [Array.length_toList] at this
    simp only [Array.size_append, Array.size_replicate]
    omega
  · intro e a' w' hp
    obtain ⟨ρ', st', h3, h4, h5⟩ := hp
    have key : (∃ v M2, resV P fn st' = some v ∧ Fin M st'.mem v M2 ∧ Q v M2) → a'.defers = [] ∧ ∃ v, (results fn a'.tmps).run P w' = .ok v w' ∧ After P G ρ M w Q (.returned v) w' := by
      rintro ⟨v, M2, h6, h7, h8⟩
      obtain ⟨v', h9, h10⟩ := resV_sound h4 h6
      refine ⟨h4.defers, v', h9, ?_⟩
      cases h7 with
      | less _ e1 e2 =>
        have hs := StepS.sub h4.sim M2.get e2
        have hs' : Step P G ρ' st'.mem w' ρ' M2 w' := by unfold Step; rw [e1]; exact hs
        exact ⟨ρ', v, v', M2, rfl, h8, by rw [e1]; exact h10, h5.trans hs'⟩
      | same hv hs =>
        refine ⟨ρ', v, v', M, rfl, h8, ?_, h5.back h1 hs⟩
        exact h10.narrow (flatV_rel (ρ := ρ) hv)
    cases e with
    | normal => exact key h3
    | ret => exact key h3
    | exit id => exact h3.elim
    | goto l => exact h3.elim
    | panic ch => exact h3.elim
    | outgrown => exact h3.elim
end
end Go.AL
end
/- The library of this session's own, part 14: words by which a state is reckoned on. -/
section
namespace Go.AL
open Go

theorem upd_eq {α : Type} (f : Nat → α) {k j : Nat} (v : α) (h : j = k) : upd f k v j = v := by simp [upd, h]
theorem upd_upd {α : Type} (f : Nat → α) (k : Nat) (v u : α) : upd (upd f k v) k u = upd f k u := by
  funext j
  by_cases h : j = k
  · subst h; rw [upd_self, upd_self]
  · rw [upd_ne _ _ h, upd_ne _ _ h, upd_ne _ _ h]
theorem upd_comm {α : Type} (f : Nat → α) {k k' : Nat} (v u : α) (h : k' ≠ k) : upd (upd f k v) k' u = upd (upd f k' u) k v := by
  funext j
  by_cases h1 : j = k <;> by_cases h2 : j = k'
  · subst h1; exact absurd h2.symm h
  · subst h1; rw [upd_ne _ _ h2, upd_self, upd_self]
  · subst h2; rw [upd_self, upd_ne _ _ h1, upd_self]
  · rw [upd_ne _ _ h2, upd_ne _ _ h1, upd_ne _ _ h1, upd_ne _ _ h2]

/-- A value's cells, as a list. -/
def cl : Value → List Value
  | .agg cs => cs.toList
  | .bool b => [.bool b]
  | .int k n => [.int k n]
  | .string s => [.string s]
  | .pointer a => [.pointer a]
  | .slice a l c => [.slice a l c]
  | .func f a b => [.func f a b]
  | .nilFunc => [.nilFunc]
  | .iface t v => [.iface t v]
  | .nilIface => [.nilIface]
  | .map r => [.map r]
  | .chan r => [.chan r]
  | .tuple vs => [.tuple vs]
  | .float k b => [.float k b]
  | .complex k a b => [.complex k a b]
theorem cells_cl (v : Value) : v.cells.toList = cl v := by cases v <;> rfl
theorem cells_size (v : Value) : v.cells.size = (cl v).length := by rw [← cells_cl]; simp

/-- Cells written at a place of a row; what the row is then. -/
def wr : List Value → Nat → List Value → List Value
  | cs, 0, [] => cs
  | _ :: cs, 0, v :: l => v :: wr cs 0 l
  | c :: cs, n + 1, l => c :: wr cs n l
  | [], _, l => l
theorem splice_wr : ∀ (cs : List Value) (n : Nat) (l : List Value), n + l.length ≤ cs.length → splice cs n l = wr cs n l
  | cs, 0, [], _ => by cases cs <;> simp [splice, wr]
  | c :: cs, 0, v :: l, h => by
    have := splice_wr cs 0 l (by simp at h ⊢; omega)
    simp only [wr, ← this, splice]
    simp
  | c :: cs, n + 1, l, h => by
    have := splice_wr cs n l (by simp at h; omega)
    simp only [wr, ← this, splice]
    rw [show n + 1 + l.length = (n + l.length) + 1 by omega]
    simp
  | [], n + 1, l, h => by simp at h
  | [], 0, _ :: _, h => by simp at h

section
variable {P : Program} {G : Nat} {get : Nat → Option AObj}
theorem aStore_eq (t : TypeId) (k off : Nat) (x : Value) : aStore P t get (.pointer (some ⟨k, off, none⟩)) x =
    if sizeQ P t = some (cl x).length then
      match get k with
      | some (.cells cs e fz false) => if fz ≤ off ∧ off + (cl x).length ≤ cs.length ∧ (cl x).all (·.oneCell') = true then some (k, .cells (wr cs off (cl x)) e fz false) else none
      | _ => none
    else none := by
  simp only [aStore, cells_size, cells_cl, aWrite]
  by_cases hs : sizeQ P t = some (cl x).length
  · rw [if_pos hs, if_pos hs]
    cases hg : get k with
    | none => rfl
    | some a =>
      cases a with
      | iter s p => rfl
      | cells cs e fz ro =>
        cases ro with
        | true => rfl
        | false =>
          simp only
          by_cases h : fz ≤ off ∧ off + (cl x).length ≤ cs.length ∧ (cl x).all (·.oneCell') = true
          · rw [if_pos h, if_pos h, splice_wr _ _ _ h.2.1]; rfl
          · rw [if_neg h, if_neg h]; rfl
  · rw [if_neg hs, if_neg hs]
end
end Go.AL
end
/- The library of this session's own, part 15: a region that draws its order: one order is enough, where the operations that no edge orders do not meet. -/
section
namespace Go.AL
open Go

section
variable {P : Program} {G : Nat} {tm tm' : List (Nat × Value)} {get get' : Nat → Option AObj} {kk kk' : Nat}

theorem ev_le {x : Operand} (h : ∀ t, x = .tmp t → ∀ v, look tm t = some v → look tm' t = some v) {v : Value} (hv : ev G tm x = some v) : ev G tm' x = some v := by
  cases x with
  | tmp t => exact h t rfl v hv
  | const c => exact hv
  | global g => exact hv
  | func f => exact hv
theorem evL_le : ∀ {l : List Operand} (_ : ∀ t, .tmp t ∈ l → ∀ v, look tm t = some v → look tm' t = some v) {vs : List Value}, evL G tm l = some vs → evL G tm' l = some vs
  | [], _, _, hv => hv
  | x :: l, h, vs, hv => by
    simp only [evL] at hv ⊢
    split at hv <;> cases hv
    rename_i h1 h2
    rw [ev_le (fun t ht => h t (by simp [ht])) h1, evL_le (fun t ht => h t (List.mem_cons_of_mem _ ht)) h2]
theorem evP_le : ∀ {l : List (Nat × Operand)} (_ : ∀ t, .tmp t ∈ l.map (·.2) → ∀ v, look tm t = some v → look tm' t = some v) {vs : List (Nat × Value)}, evP G tm l = some vs → evP G tm' l = some vs
  | [], _, _, hv => hv
  | (i, x) :: l, h, vs, hv => by
    simp only [evP] at hv ⊢
    split at hv <;> cases hv
    rename_i h1 h2
    rw [ev_le (fun t ht => h t (by simp [ht])) h1, evP_le (fun t ht => h t (List.mem_cons_of_mem _ ht)) h2]
theorem evO_le {x : Option Operand} (h : ∀ t, x = some (.tmp t) → ∀ v, look tm t = some v → look tm' t = some v) {v : Option Value} (hv : evO G tm x = some v) : evO G tm' x = some v := by
  cases x with
  | none => exact hv
  | some x =>
    simp only [evO, Option.map_eq_some_iff] at hv ⊢
    obtain ⟨u, h1, h2⟩ := hv
    exact ⟨u, ev_le (fun t ht => h t (by rw [ht])) h1, h2⟩

/-- An operation looks at its operands alone. -/
theorem absOp_le {op : Op} (ht : ∀ t, .tmp t ∈ op.operands → ∀ v, look tm t = some v → look tm' t = some v) {r : Value × Eff} (h : absOp P G op tm get kk = some r) : absOp P G op tm' get kk = some r := by
  have E : ∀ {x : Operand} {v : Value}, x ∈ op.operands → ev G tm x = some v → ev G tm' x = some v := fun hx hv => ev_le (fun t e => ht t (e ▸ hx)) hv
  cases op <;> simp only [absOp, Option.map_eq_some_iff, Option.bind_eq_some_iff] at h ⊢ <;> try (cases h; done)
  case move => obtain ⟨u, h1, h2⟩ := h; exact ⟨u, E (by simp [Op.operands]) h1, h2⟩
  case assign => obtain ⟨u, h1, h2⟩ := h; exact ⟨u, E (by simp [Op.operands]) h1, h2⟩
  case box => obtain ⟨u, h1, h2⟩ := h; exact ⟨u, E (by simp [Op.operands]) h1, h2⟩
  case load => obtain ⟨u, h1, h2⟩ := h; exact ⟨u, E (by simp [Op.operands]) h1, h2⟩
  case unOp => obtain ⟨u, h1, h2⟩ := h; exact ⟨u, E (by simp [Op.operands]) h1, h2⟩
  case convert => obtain ⟨u, h1, h2⟩ := h; exact ⟨u, E (by simp [Op.operands]) h1, h2⟩
  case makeInterface => obtain ⟨u, h1, h2⟩ := h; exact ⟨u, E (by simp [Op.operands]) h1, h2⟩
  case fieldAddr => obtain ⟨u, h1, h2⟩ := h; exact ⟨u, E (by simp [Op.operands]) h1, h2⟩
  case field => obtain ⟨u, h1, h2⟩ := h; exact ⟨u, E (by simp [Op.operands]) h1, h2⟩
  case extract => obtain ⟨u, h1, h2⟩ := h; exact ⟨u, E (by simp [Op.operands]) h1, h2⟩
  case alloc => exact h
  case build => obtain ⟨u, h1, h2⟩ := h; exact ⟨u, evP_le (fun t ht' => ht t (by simpa [Op.operands] using ht')) h1, h2⟩
  case buildSlice => obtain ⟨u, h1, h2⟩ := h; exact ⟨u, evP_le (fun t ht' => ht t (by simpa [Op.operands] using ht')) h1, h2⟩
  case pick =>
    split at h <;> try (cases h; done)
    all_goals
      rename_i h1
      simp only [Option.map_eq_some_iff] at h
      obtain ⟨u, h2, h3⟩ := h
      rw [E (by simp [Op.operands]) h1, E (by simp [Op.operands]) h2]
      simp [h3]
  case store =>
    split at h <;> try (cases h; done)
    rename_i h1 h2
    rw [E (by simp [Op.operands]) h1, E (by simp [Op.operands]) h2]
    exact h
  case nilCheck =>
    split at h <;> try (cases h; done)
    all_goals
      rename_i h1
      rw [E (by simp [Op.operands]) h1]
      exact h
  case binOp =>
    split at h <;> try (cases h; done)
    rename_i h1 h2
    rw [E (by simp [Op.operands]) h1, E (by simp [Op.operands]) h2]
    exact h
  case makeSlice =>
    split at h <;> try (cases h; done)
    rename_i h1 h2
    rw [E (by simp [Op.operands]) h1, E (by simp [Op.operands]) h2]
    exact h
  case indexAddr =>
    split at h <;> try (cases h; done)
    rename_i h1 h2
    rw [E (by simp [Op.operands]) h1, E (by simp [Op.operands]) h2]
    exact h
  case index =>
    split at h <;> try (cases h; done)
    rename_i h1 h2
    rw [E (by simp [Op.operands]) h1, E (by simp [Op.operands]) h2]
    exact h
  case slice t x lo hi mx =>
    split at h <;> try (cases h; done)
    rename_i h1 h2 h3 h4
    rw [E (by simp [Op.operands]) h1, evO_le (fun t e => ht t (by simp [Op.operands, e])) h2, evO_le (fun t e => ht t (by simp [Op.operands, e])) h3, evO_le (fun t e => ht t (by simp [Op.operands, e])) h4]
    exact h
  case range =>
    split at h <;> try (cases h; done)
    rename_i h1 h2
    rw [E (by simp [Op.operands]) h1, h2]
    exact h
  case makeFunc fn first captured =>
    cases fn <;> simp only [absOp] at h ⊢ <;> try (cases h; done)
    split at h <;> try (cases h; done)
    rename_i h1 h2
    rw [evL_le (fun t e => ht t (by simp [Op.operands] at e ⊢; exact .inl e)) h1, evL_le (fun t e => ht t (by simp [Op.operands] at e ⊢; exact .inr e)) h2]
    exact h
  case next x isS =>
    cases isS <;> simp only [absOp, Option.bind_eq_some_iff] at h ⊢ <;> try (cases h; done)
    obtain ⟨u, h1, h2⟩ := h
    exact ⟨u, E (by simp [Op.operands]) h1, h2⟩
  case call c =>
    obtain ⟨callee, args, ts⟩ := c
    cases callee <;> simp only [Option.bind_eq_some_iff] at h ⊢ <;> try (cases h; done)
    obtain ⟨u, h1, h2⟩ := h
    exact ⟨u, evL_le (fun t e => ht t (by simp [Op.operands, Call.operands] at e ⊢; exact e)) h1, h2⟩

/-- What is told of pure functions: what they answer, by their arguments alone. -/
def PF : Type := FuncId → Option (List Value → Option Value)
def PF.none : PF := fun _ => Option.none
def PF.ok (P : Program) (G : Nat) (pf : PF) : Prop := ∀ f F args v M, pf f = some F → F args = some v → ACallF P G f args M fun v' M' => v' = v ∧ M' = M
theorem PF.none_ok : PF.none.ok P G := fun _ _ _ _ _ h => by cases h

/-- 0: looks at its operands alone. 1: and at the memory. 2: makes a block. 3: whatever has no call of a function. 4: a call. -/
def kindOf (P : Program) (pf : PF) : Op → Nat
  | .move _ | .assign _ | .pick .. | .build .. | .nilCheck _ | .binOp .. | .unOp .. | .makeInterface .. | .makeFunc .. | .fieldAddr .. | .field .. | .indexAddr .. | .index .. | .extract .. => 0
  | .load .. | .convert .. => 1
  | .slice t _ _ _ _ =>
    match P.underlying t with
    | some (.slice _) => 1
    | _ => 0
  | .alloc _ | .box _ _ | .buildSlice .. | .makeSlice .. => 2
  | .call ⟨.builtin .len, _, _⟩ | .call ⟨.builtin .min, _, _⟩ | .call ⟨.builtin .max, _, _⟩ => 0
  | .call ⟨.builtin _, _, _⟩ => 3
  | .call ⟨.value (.func f), _, _⟩ => if (pf f).isSome then 0 else 4
  | .call _ => 4
  | _ => 3

/-- An operation that is no call, its guard too; a call that is told by a function is none. -/
def plainOp (P : Program) (G : Nat) (pf : PF) (op : Op) (tm : List (Nat × Value)) (get : Nat → Option AObj) (kk : Nat) : Option (Value × Eff) :=
  match op with
  | .call ⟨.value (.func f), args, _⟩ =>
    match pf f, evL G tm args.toList with
    | some F, some vs => (F vs).map fun v => (v, .none)
    | _, _ => none
  | op => absOp P G op tm get kk
def gOp (P : Program) (G : Nat) (pf : PF) (ops : List Oper) (o : Oper) (tm : List (Nat × Value)) (get : Nat → Option AObj) (kk : Nat) : Option (Value × Eff) :=
  match o.guard with
  | none => plainOp P G pf o.op tm get kk
  | some (j, want) =>
    match wantQ (((ops[j]?).bind (·.dst)).bind (look tm)) want with
    | some true => plainOp P G pf o.op tm get kk
    | some false => some (undef, .none)
    | none => none
def reads (ops : List Oper) (o : Oper) (t : Tmp) : Prop := .tmp t ∈ o.op.operands ∨ ∃ j want, o.guard = some (j, want) ∧ (ops[j]?).bind (·.dst) = some t
theorem plainOp_le {pf : PF} {op : Op} (ht : ∀ t, .tmp t ∈ op.operands → ∀ v, look tm t = some v → look tm' t = some v) {r : Value × Eff} (h : plainOp P G pf op tm get kk = some r) : plainOp P G pf op tm' get kk = some r := by
  unfold plainOp at h ⊢
  split at h
  · split at h <;> try (cases h; done)
    rename_i h1 h2
    simp only [h1]
    rw [evL_le (fun t e => ht t (by simp [Op.operands, Call.operands] at e ⊢; simp [e])) h2]
    exact h
  · exact absOp_le ht h
theorem gOp_le {pf : PF} {ops : List Oper} {o : Oper} (ht : ∀ t, reads ops o t → ∀ v, look tm t = some v → look tm' t = some v) {r : Value × Eff} (h : gOp P G pf ops o tm get kk = some r) : gOp P G pf ops o tm' get kk = some r := by
  unfold gOp at h ⊢
  split at h
  · exact plainOp_le (fun t e => ht t (.inl e)) h
  · rename_i j want hg
    have key : ∀ {r}, wantQ (((ops[j]?).bind (·.dst)).bind (look tm)) want = some r → wantQ (((ops[j]?).bind (·.dst)).bind (look tm')) want = some r := by
      intro r hr
      cases hb : ((ops[j]?).bind (·.dst)).bind (look tm) with
      | none => rw [hb] at hr; cases hr
      | some v =>
        have : ((ops[j]?).bind (·.dst)).bind (look tm') = some v := by
          rw [Option.bind_eq_some_iff] at hb ⊢
          obtain ⟨t, h1, h2⟩ := hb
          exact ⟨t, h1, ht t (.inr ⟨j, want, hg, h1⟩) _ h2⟩
        rw [this, ← hb]
        exact hr
    split at h <;> try (cases h; done)
    · rename_i hq; rw [key hq]; exact plainOp_le (fun t e => ht t (.inl e)) h
    · rename_i hq; rw [key hq]; exact h

theorem newsOf_mono {size : Nat} {x : Value} (hg : ∀ k o, get k = some o → get' k = some o) {r : Nat × List Value} (h : newsOf get size x = some r) : newsOf get' size x = some r := by
  unfold newsOf at h ⊢
  split at h <;> try (cases h; done)
  · exact h
  · exact h
  · split at h
    · rename_i hn; simp only [hn, if_true]; exact h
    · rename_i hn
      simp only [hn, if_false]
      split at h <;> try (cases h; done)
      rename_i hk
      rw [hg _ _ hk]
      exact h
  · exact h
theorem aLoad_mono {t : TypeId} {x r : Value} (hg : ∀ k o, get k = some o → get' k = some o) (h : aLoad P t get x = some r) : aLoad P t get' x = some r := by
  unfold aLoad at h ⊢
  split at h <;> try (cases h; done)
  split at h <;> try (cases h; done)
  rename_i hk
  rw [hg _ _ hk]
  exact h
theorem aConvert_mono {s d : TypeId} {x r : Value} (hg : ∀ k o, get k = some o → get' k = some o) (h : aConvert P s d get x = some r) : aConvert P s d get' x = some r := by
  unfold aConvert at h ⊢
  split at h <;> try (cases h; done)
  · exact h
  · exact h
  · split at h <;> try (cases h; done)
    rename_i e1 e2
    split at h <;> try (cases h; done)
    rename_i e3 e4
    simp only [e1, e2, e3, newsOf_mono hg e4]
    exact h
theorem aSlice_mono {t : TypeId} {x r : Value} {l hi m : Option Value} (hg : ∀ k o, get k = some o → get' k = some o) (h : aSlice P t get x l hi m = some r) : aSlice P t get' x l hi m = some r := by
  unfold aSlice at h ⊢
  split at h <;> try (cases h; done)
  · exact h
  · exact h
  · split at h <;> try (cases h; done)
    rename_i e1 e2
    simp only [e1, hg _ _ e2]
    exact h
  · exact h
theorem aSlice_free {t : TypeId} {x r : Value} {l hi m : Option Value} (hs : ∀ e, P.underlying t ≠ some (.slice e)) (h : aSlice P t get x l hi m = some r) : aSlice P t get' x l hi m = some r := by
  unfold aSlice at h ⊢
  split at h <;> try (cases h; done)
  · exact h
  · exact h
  · split at h <;> try (cases h; done)
    rename_i e1 e2
    unfold elemQ at e1
    split at e1 <;> try (cases e1; done)
    rename_i hu
    exact absurd hu (hs _)
  · exact h
theorem aBuiltin_pure {b : Builtin} (hb : b = .len ∨ b = .min ∨ b = .max) {ts : List TypeId} {vs : List Value} {v : Value} {e : Eff} (h : aBuiltin P b ts vs get kk = some (v, e)) :
    e = .none ∧ ∀ get' kk', aBuiltin P b ts vs get' kk' = some (v, .none) := by
  rcases hb with rfl | rfl | rfl <;> rcases ts with _ | ⟨t, _ | ⟨t', r⟩⟩ <;> rcases vs with _ | ⟨x, _ | ⟨y, _ | ⟨z, q⟩⟩⟩ <;> simp only [aBuiltin, Option.map_eq_some_iff] at h ⊢ <;> try (cases h; done)
  all_goals
    obtain ⟨u, h3, h4⟩ := h
    cases h4
    exact ⟨rfl, fun _ _ => ⟨_, h3, rfl⟩⟩
theorem plain0 {pf : PF} {op : Op} (hk : kindOf P pf op = 0) {v : Value} {e : Eff} (h : plainOp P G pf op tm get kk = some (v, e)) : e = .none ∧ ∀ get' kk', plainOp P G pf op tm get' kk' = some (v, .none) := by
  cases op <;> simp only [kindOf] at hk <;> try (cases hk; done)
  case call c =>
    obtain ⟨callee, args, ts⟩ := c
    cases callee
    case builtin b =>
      have key : ∀ get kk, plainOp P G pf (.call ⟨.builtin b, args, ts⟩) tm get kk = (evL G tm args.toList).bind fun vs => aBuiltin P b ts.toList vs get kk := fun _ _ => rfl
      simp only [key, Option.bind_eq_some_iff] at h ⊢
      obtain ⟨vs, h1, h2⟩ := h
      have hb : b = .len ∨ b = .min ∨ b = .max := by cases b <;> first | (cases hk; done) | simp
      obtain ⟨h3, h4⟩ := aBuiltin_pure hb h2
      exact ⟨h3, fun get' kk' => ⟨vs, h1, h4 get' kk'⟩⟩
    case value x =>
      cases x <;> simp only at hk <;> try (cases hk; done)
      rename_i f
      simp only [plainOp] at h ⊢
      split at h <;> try (cases h; done)
      simp only [Option.map_eq_some_iff] at h
      obtain ⟨u, h1, h2⟩ := h
      cases h2
      rename_i e1 e2
      exact ⟨rfl, fun _ _ => by simp [h1]⟩
    case invoke => simp only at hk; cases hk
  case slice t x lo hi mx =>
    simp only [plainOp, absOp] at h ⊢
    have hs : ∀ e, P.underlying t ≠ some (.slice e) := by
      intro e he
      rw [he] at hk
      cases hk
    split at h <;> try (cases h; done)
    simp only [Option.map_eq_some_iff] at h ⊢
    obtain ⟨u, h1, h2⟩ := h
    cases h2
    exact ⟨rfl, fun get' kk' => ⟨_, aSlice_free hs h1, rfl⟩⟩
  case makeFunc fn first captured =>
    cases fn <;> simp only [plainOp, absOp] at h ⊢ <;> try (cases h; done)
    split at h <;> cases h
    exact ⟨rfl, fun _ _ => rfl⟩
  all_goals
    simp only [plainOp, absOp] at h ⊢
    try simp only [Option.map_eq_some_iff, Option.bind_eq_some_iff] at h ⊢
    first
      | (obtain ⟨u, h1, h2⟩ := h; cases h2; exact ⟨rfl, fun _ _ => ⟨_, h1, rfl⟩⟩)
      | (obtain ⟨u, h1, r, h2, h3⟩ := h; cases h3; exact ⟨rfl, fun _ _ => ⟨_, h1, _, h2, rfl⟩⟩)
      | (split at h <;> try (cases h; done)
         all_goals first
           | (cases h; exact ⟨rfl, fun _ _ => rfl⟩)
           | (simp only [Option.map_eq_some_iff] at h ⊢; obtain ⟨u, h1, h2⟩ := h; cases h2; exact ⟨rfl, fun _ _ => ⟨_, h1, rfl⟩⟩))
theorem plain1 {pf : PF} {op : Op} (hk : kindOf P pf op = 1) {v : Value} {e : Eff} (h : plainOp P G pf op tm get kk = some (v, e)) : e = .none ∧ ∀ get' kk', (∀ k o, get k = some o → get' k = some o) → plainOp P G pf op tm get' kk' = some (v, .none) := by
  cases op <;> simp only [kindOf] at hk <;> try (cases hk; done)
  case call c =>
    obtain ⟨callee, args, ts⟩ := c
    cases callee <;> try simp only at hk
    case builtin b => cases b <;> cases hk
    case value x => cases x <;> simp only at hk <;> (try split at hk) <;> cases hk
    case invoke => cases hk
  case load t x =>
    simp only [plainOp, absOp, Option.map_eq_some_iff, Option.bind_eq_some_iff] at h ⊢
    obtain ⟨u, h1, r, h2, h3⟩ := h
    cases h3
    exact ⟨rfl, fun _ _ hg => ⟨_, h1, _, aLoad_mono hg h2, rfl⟩⟩
  case convert s d x =>
    simp only [plainOp, absOp, Option.map_eq_some_iff, Option.bind_eq_some_iff] at h ⊢
    obtain ⟨u, h1, r, h2, h3⟩ := h
    cases h3
    exact ⟨rfl, fun _ _ hg => ⟨_, h1, _, aConvert_mono hg h2, rfl⟩⟩
  case slice t x lo hi mx =>
    simp only [plainOp, absOp] at h ⊢
    split at h <;> try (cases h; done)
    simp only [Option.map_eq_some_iff] at h ⊢
    obtain ⟨u, h1, h2⟩ := h
    cases h2
    exact ⟨rfl, fun _ _ hg => ⟨_, aSlice_mono hg h1, rfl⟩⟩
theorem plain2 {pf : PF} {op : Op} (hk : kindOf P pf op = 2) {v : Value} {e : Eff} (h : plainOp P G pf op tm get kk = some (v, e)) : ∃ a, e = .new a := by
  cases op <;> simp only [kindOf] at hk <;> try (cases hk; done)
  case call c =>
    obtain ⟨callee, args, ts⟩ := c
    cases callee <;> try simp only at hk
    case builtin b => cases b <;> cases hk
    case value x => cases x <;> simp only at hk <;> (try split at hk) <;> cases hk
    case invoke => cases hk
  case slice t x lo hi mx => split at hk <;> cases hk
  case makeSlice t l c =>
    simp only [plainOp, absOp] at h
    split at h <;> try (cases h; done)
    simp only [Option.map_eq_some_iff, Option.bind_eq_some_iff] at h
    obtain ⟨r, h1, o, h2, h3⟩ := h
    cases h3
    exact ⟨_, rfl⟩
  all_goals
    simp only [plainOp, absOp, Option.map_eq_some_iff, Option.bind_eq_some_iff] at h
    first
      | (obtain ⟨u, h1, a, h2, h3⟩ := h; cases h3; exact ⟨_, rfl⟩)
      | (obtain ⟨u, h1, r, h2, a, h3, h4⟩ := h; cases h4; exact ⟨_, rfl⟩)
end
end Go.AL
end
/- The library of this session's own, part 16: a region that draws its order: the check, and its theorem. -/
section
namespace Go.AL
open Go

/-- No write to these blocks. -/
def Eff.off (av : List Nat) : Eff → Prop
  | .set k _ => k ∉ av
  | .move k _ => k ∉ av
  | _ => True
/-- What a state of the same memory knows less. -/
def le1 (s t : St) : Prop := (∀ x v, look s.tm x = some v → look t.tm x = some v) ∧ s.mem = t.mem
theorem le1.refl (s : St) : le1 s s := ⟨fun _ _ h => h, rfl⟩
theorem le1.trans {s t u : St} (h : le1 s t) (h' : le1 t u) : le1 s u := ⟨fun x v hv => h'.1 x v (h.1 x v hv), h.2.trans h'.2⟩
def up (K : St → Prop) (s : St) : Prop := ∃ s0, K s0 ∧ le1 s0 s
theorem up.of {K : St → Prop} {s : St} (h : K s) : up K s := ⟨s, h, .refl s⟩
theorem up.up {K : St → Prop} {s : St} (h : up (up K) s) : up K s := let ⟨_, ⟨s0, h1, h2⟩, h3⟩ := h; ⟨s0, h1, h2.trans h3⟩

theorem look_putD (tm : List (Nat × Value)) (d : Option Tmp) (v : Value) (t : Nat) : look (putD tm d v) t = if d = some t then some v else look tm t := by
  cases d with
  | none => simp [putD]
  | some d =>
    simp only [putD, look_putL, Option.some.injEq]
    by_cases h : t = d
    · rw [if_pos h, if_pos h.symm]
    · rw [if_neg h, if_neg (fun e => h e.symm)]
theorem putD_le {s t : List (Nat × Value)} (h : ∀ x v, look s x = some v → look t x = some v) (d : Option Tmp) (u : Value) : ∀ x v, look (putD s d u) x = some v → look (putD t d u) x = some v := by
  intro x v
  simp only [look_putD]
  split
  · exact id
  · exact h x v

section
variable {P : Program} {G N : Nat} {pf : PF} {av : List Nat} {fx : List Tmp} {ops : List Oper}

theorem gOp0 {o : Oper} (hk : kindOf P pf o.op = 0) {tm : List (Nat × Value)} {get : Nat → Option AObj} {kk : Nat} {v : Value} {e : Eff} (h : gOp P G pf ops o tm get kk = some (v, e)) :
    e = .none ∧ ∀ get' kk', gOp P G pf ops o tm get' kk' = some (v, .none) := by
  unfold gOp at h ⊢
  split at h
  · exact plain0 hk h
  · split at h <;> try (cases h; done)
    · exact plain0 hk h
    · cases h; exact ⟨rfl, fun _ _ => rfl⟩
theorem gOp1 {o : Oper} (hk : kindOf P pf o.op = 1) {tm : List (Nat × Value)} {get : Nat → Option AObj} {kk : Nat} {v : Value} {e : Eff} (h : gOp P G pf ops o tm get kk = some (v, e)) :
    e = .none ∧ ∀ get' kk', (∀ k o, get k = some o → get' k = some o) → gOp P G pf ops o tm get' kk' = some (v, .none) := by
  unfold gOp at h ⊢
  split at h
  · exact plain1 hk h
  · split at h <;> try (cases h; done)
    · exact plain1 hk h
    · cases h; exact ⟨rfl, fun _ _ _ => rfl⟩
theorem gOp2 {o : Oper} (hk : kindOf P pf o.op = 2) {tm : List (Nat × Value)} {get : Nat → Option AObj} {kk : Nat} {v : Value} {e : Eff} (h : gOp P G pf ops o tm get kk = some (v, e)) :
    e = .none ∨ ∃ a, e = .new a := by
  unfold gOp at h
  split at h
  · exact .inr (plain2 hk h)
  · split at h <;> try (cases h; done)
    · exact .inr (plain2 hk h)
    · cases h; exact .inl rfl

/-- One operation of a region that draws. -/
def xOneA (P : Program) (G : Nat) (pf : PF) (av : List Nat) (ops : List Oper) (o : Oper) (st : St) (K : St → Prop) : Prop :=
  if kindOf P pf o.op = 4 then o.guard = none ∧ xOp P G o st K
  else match gOp P G pf ops o st.tm st.mem.get st.mem.next with
    | some (v, e) => e.off av ∧ K ⟨putD st.tm o.dst v, e.app st.mem⟩
    | none => False
def xDrawA (P : Program) (G : Nat) (pf : PF) (av : List Nat) (ops : List Oper) : List Nat → St → (St → Prop) → Prop
  | [], st, K => K st
  | i :: r, st, K =>
    match ops[i]? with
    | some o => xOneA P G pf av ops o st fun st' => xDrawA P G pf av ops r st' K
    | none => False

theorem xOp_call {o : Oper} (hk : kindOf P pf o.op = 4) {st : St} {K : St → Prop} (h : xOp P G o st K) :
    ∃ f vs, (∀ t : St, (∀ t', reads ops o t' → ∀ v, look st.tm t' = some v → look t.tm t' = some v) → ∀ K', (xOp P G o t K' ↔ ACallF P G f vs t.mem fun v M' => K' ⟨putD t.tm o.dst v, M'⟩)) := by
  obtain ⟨dst, op, type, pos, after, guard⟩ := o
  simp only at hk
  cases op <;> simp only [kindOf] at hk <;> try (cases hk; done)
  case slice => split at hk <;> cases hk
  case call c =>
    obtain ⟨callee, args, ts⟩ := c
    cases callee
    case builtin b => cases b <;> cases hk
    case invoke r m => simp only [xOp, absOp] at h
    case value x =>
      simp only [xOp] at h
      split at h <;> try exact h.elim
      rename_i f first captured vs h1 h2
      refine ⟨f, first.toList ++ vs ++ captured.toList, fun t ht K' => ?_⟩
      have e1 : ev G t.tm x = some (.func (.func f) first captured) := ev_le (fun t' e => ht t' (.inl (by simp [Op.operands, Call.operands, e]))) h1
      have e2 : evL G t.tm args.toList = some vs := evL_le (fun t' e => ht t' (.inl (by simp [Op.operands, Call.operands] at e ⊢; simp [e]))) h2
      simp only [xOp, e1, e2]

theorem xOneA_mono {o : Oper} {st : St} {K K' : St → Prop} (hk : ∀ s, K s → K' s) (h : xOneA P G pf av ops o st K) : xOneA P G pf av ops o st K' := by
  unfold xOneA at h ⊢
  split at h
  · rename_i h4
    rw [if_pos h4]
    obtain ⟨f, vs, hc⟩ := xOp_call (ops := ops) h4 h.2
    exact ⟨h.1, (hc st (fun _ _ _ h => h) K').2 (((hc st (fun _ _ _ h => h) K).1 h.2).mono fun v M' => hk _)⟩
  · rename_i h4
    rw [if_neg h4]
    split at h
    · exact ⟨h.1, hk _ h.2⟩
    · exact h
theorem xDrawA_mono {K K' : St → Prop} (hk : ∀ s, K s → K' s) : ∀ {l : List Nat} {st : St}, xDrawA P G pf av ops l st K → xDrawA P G pf av ops l st K'
  | [], _, h => hk _ h
  | i :: r, st, h => by
    simp only [xDrawA] at h ⊢
    split at h
    · exact xOneA_mono (fun s => xDrawA_mono hk) h
    · exact h
/-- An operation looks at what it reads. -/
theorem xOneA_reads {o : Oper} {s t : St} (hm : s.mem = t.mem) (hr : ∀ t', reads ops o t' → ∀ v, look s.tm t' = some v → look t.tm t' = some v) {K : St → Prop} (h : xOneA P G pf av ops o s K) :
    xOneA P G pf av ops o t fun t' => ∃ v M', K ⟨putD s.tm o.dst v, M'⟩ ∧ t' = ⟨putD t.tm o.dst v, M'⟩ := by
  unfold xOneA at h ⊢
  split at h
  · rename_i h4
    rw [if_pos h4]
    obtain ⟨f, vs, hc⟩ := xOp_call (ops := ops) h4 h.2
    refine ⟨h.1, (hc t hr _).2 ?_⟩
    rw [← hm]
    exact ((hc s (fun _ _ _ h => h) K).1 h.2).mono fun v M' hk => ⟨v, M', hk, rfl⟩
  · rename_i h4
    rw [if_neg h4]
    split at h
    · rename_i v e he
      rw [← hm, gOp_le hr he]
      exact ⟨h.1, v, _, h.2, rfl⟩
    · exact h.elim
theorem xOneA_le {o : Oper} {s t : St} (hl : le1 s t) {K : St → Prop} (h : xOneA P G pf av ops o s K) : xOneA P G pf av ops o t (up K) :=
  xOneA_mono (fun s' => by rintro ⟨v, M', hk, rfl⟩; exact ⟨_, hk, putD_le hl.1 _ _, rfl⟩) (xOneA_reads hl.2 (fun t' _ => hl.1 t') h)
theorem xDrawA_le {K : St → Prop} : ∀ {l : List Nat} {s t : St}, le1 s t → xDrawA P G pf av ops l s K → xDrawA P G pf av ops l t (up K)
  | [], s, t, hl, h => ⟨s, h, hl⟩
  | i :: r, s, t, hl, h => by
    simp only [xDrawA] at h ⊢
    split at h
    · refine xOneA_mono (fun s' h' => ?_) (xOneA_le hl h)
      obtain ⟨s0, h1, h2⟩ := h'
      exact xDrawA_le h2 h1
    · exact h

/-- May these two, in this order in the row, come in the other one? -/
def classB (P : Program) (pf : PF) (fx : List Tmp) (x y : Op) : Bool :=
  match kindOf P pf x, kindOf P pf y with
  | 0, _ => true
  | 4, _ => false
  | _, 0 => true
  | 1, 1 => true
  | 1, 2 => true
  | 1, 3 => match x with
    | .load _ (.tmp t) => fx.contains t
    | _ => false
  | _, _ => false
/-- The slots of fx hold addresses of the blocks av. -/
def FX (av : List Nat) (fx : List Tmp) (tm : List (Nat × Value)) : Prop := ∀ t ∈ fx, ∃ k off, look tm t = some (.pointer (some ⟨k, off, none⟩)) ∧ k ∈ av

theorem reads_looks {ops : Array Oper} {o : Oper} {t : Tmp} (h : reads ops.toList o t) : t ∈ o.looksAt ops := by
  unfold Oper.looksAt
  rcases h with h | ⟨j, want, hg, hd⟩
  · exact List.mem_append_left _ (List.mem_filterMap.2 ⟨.tmp t, by simpa using h, rfl⟩)
  · refine List.mem_append_right _ ?_
    rw [hg]
    simp only [Array.getElem?_toList] at hd
    simp [hd]

theorem swap_plain {ops : Array Oper} {x y : Oper} (hap : x.apart ops y = true) (hcl : classB P pf fx x.op y.op = true) {st : St} (hw : kindOf P pf y.op ≠ 0 → st.mem.get st.mem.next = none) (hfx : FX av fx st.tm)
    {v u : Value} {e f : Eff} (h1 : gOp P G pf ops.toList x st.tm st.mem.get st.mem.next = some (v, e))
    (h2 : gOp P G pf ops.toList y (putD st.tm x.dst v) (e.app st.mem).get (e.app st.mem).next = some (u, f)) (hoff : f.off av) :
    gOp P G pf ops.toList y st.tm st.mem.get st.mem.next = some (u, f) ∧ gOp P G pf ops.toList x (putD st.tm y.dst u) (f.app st.mem).get (f.app st.mem).next = some (v, e) ∧ f.app (e.app st.mem) = e.app (f.app st.mem) := by
  obtain ⟨a1, a2, a3⟩ := Oper.apart_spec hap
  have ry : ∀ {t}, reads ops.toList y t → ∀ v', look (putD st.tm x.dst v) t = some v' → look st.tm t = some v' := by
    intro t ht v' hv
    rw [look_putD] at hv
    split at hv
    · rename_i hd; exact absurd (reads_looks ht) (a1 t hd)
    · exact hv
  have rx : ∀ {t}, reads ops.toList x t → ∀ v', look st.tm t = some v' → look (putD st.tm y.dst u) t = some v' := by
    intro t ht v' hv
    rw [look_putD]
    split
    · rename_i hd; exact absurd (reads_looks ht) (a3 t hd)
    · exact hv
  have h2' := gOp_le (fun t ht => ry ht) h2
  have zero : kindOf P pf x.op = 0 → _ := fun hk => by
    obtain ⟨rfl, h3⟩ := gOp0 hk h1
    exact (⟨h2', gOp_le (fun t ht => rx ht) (h3 _ _), rfl⟩ : gOp P G pf ops.toList y st.tm st.mem.get st.mem.next = some (u, f) ∧ gOp P G pf ops.toList x (putD st.tm y.dst u) (f.app st.mem).get (f.app st.mem).next = some (v, .none) ∧ f.app (Eff.none.app st.mem) = Eff.none.app (f.app st.mem))
  have yzero : kindOf P pf y.op = 0 → gOp P G pf ops.toList y st.tm st.mem.get st.mem.next = some (u, f) ∧ gOp P G pf ops.toList x (putD st.tm y.dst u) (f.app st.mem).get (f.app st.mem).next = some (v, e) ∧ f.app (e.app st.mem) = e.app (f.app st.mem) := fun hk => by
    obtain ⟨rfl, h3⟩ := gOp0 hk h2'
    exact ⟨h3 _ _, gOp_le (fun t ht => rx ht) h1, rfl⟩
  unfold classB at hcl
  split at hcl <;> try (cases hcl; done)
  · rename_i hk
    obtain ⟨rfl, _⟩ := gOp0 hk h1
    exact zero hk
  · first
    | (rename_i hk; exact yzero hk)
    | (rename_i hk _; exact yzero hk)
    | (rename_i hk _ _; exact yzero hk)
  · rename_i hx hy
    obtain ⟨rfl, h3⟩ := gOp1 hx h1
    obtain ⟨rfl, h4⟩ := gOp1 hy h2'
    exact ⟨h2', gOp_le (fun t ht => rx ht) h1, rfl⟩
  · rename_i hx hy
    obtain ⟨rfl, h3⟩ := gOp1 hx h1
    have hw' := hw (by rw [hy]; decide)
    refine ⟨h2', ?_, rfl⟩
    rcases gOp2 hy h2' with rfl | ⟨a, rfl⟩
    · exact gOp_le (fun t ht => rx ht) h1
    · refine gOp_le (fun t ht => rx ht) (h3 _ _ fun k o hk => ?_)
      simp only [Eff.app, Mem.alloc]
      rw [upd_ne _ _ (fun e => by rw [e, hw'] at hk; cases hk)]
      exact hk
  · rename_i hx hy
    obtain ⟨rfl, h3⟩ := gOp1 hx h1
    have hw' := hw (by rw [hy]; decide)
    refine ⟨h2', ?_, rfl⟩
    split at hcl <;> try (cases hcl; done)
    rename_i t0 t hxl
    obtain ⟨k0, off0, hl, hk0⟩ := hfx t (by simpa using hcl)
    have hsame : (f.app st.mem).get k0 = st.mem.get k0 ∨ st.mem.get k0 = none := by
      by_cases hn : st.mem.get k0 = none
      · exact .inr hn
      · have hne : k0 ≠ st.mem.next := fun e => hn (by rw [e]; exact hw')
        left
        cases f with
        | none => rfl
        | new a => simp only [Eff.app, Mem.alloc]; exact upd_ne _ _ hne
        | set k a => simp only [Eff.app, Mem.set]; exact upd_ne _ _ (fun e => hoff (e ▸ hk0))
        | move k a => simp only [Eff.app, Mem.move]; rw [upd_ne _ _ hne]; exact upd_ne _ _ (fun e => hoff (e ▸ hk0))
    refine gOp_le (fun t ht => rx ht) ?_
    have key : ∀ get kk, plainOp P G pf (.load t0 (.tmp t)) st.tm get kk = ((aLoad P t0 get (.pointer (some ⟨k0, off0, none⟩))).map fun r => (r, Eff.none)) := by
      intro get kk
      simp only [plainOp, absOp, ev, hl, Option.bind_some]
    have keyg : ∀ kk', plainOp P G pf x.op st.tm st.mem.get st.mem.next = some (v, .none) → plainOp P G pf x.op st.tm (f.app st.mem).get kk' = some (v, .none) := by
      intro kk' hp
      rw [hxl, key] at hp ⊢
      simp only [aLoad] at hp ⊢
      rcases hsame with hs | hs
      · rw [hs]; exact hp
      · rw [hs] at hp; cases hp
    unfold gOp at h1 ⊢
    split at h1
    · exact keyg _ h1
    · split at h1 <;> try (cases h1; done)
      · exact keyg _ h1
      · exact h1

theorem swap_one {ops : Array Oper} {x y : Oper} (hap : x.apart ops y = true) (hcl : classB P pf fx x.op y.op = true) {st : St} (hw : kindOf P pf y.op ≠ 0 → st.mem.get st.mem.next = none) (hfx : FX av fx st.tm)
    {K : St → Prop} (h : xOneA P G pf av ops.toList x st fun s1 => xOneA P G pf av ops.toList y s1 K) : xOneA P G pf av ops.toList y st fun s2 => xOneA P G pf av ops.toList x s2 (up K) := by
  have hx4 : kindOf P pf x.op ≠ 4 := by
    intro e
    unfold classB at hcl
    rw [e] at hcl
    cases hcl
  unfold xOneA at h
  rw [if_neg hx4] at h
  split at h <;> try (exact h.elim)
  rename_i v e he
  obtain ⟨hoff, h⟩ := h
  obtain ⟨a1, a2, a3⟩ := Oper.apart_spec hap
  have hperm : ∀ u, ∀ t w', look (putD (putD st.tm x.dst v) y.dst u) t = some w' → look (putD (putD st.tm y.dst u) x.dst v) t = some w' := by
    intro u t w' hv
    simp only [look_putD] at hv ⊢
    by_cases hd : x.dst = some t
    · rw [if_pos hd]
      rw [if_neg (a2 t hd), if_pos hd] at hv
      exact hv
    · rw [if_neg hd]
      rw [if_neg hd] at hv
      exact hv
  by_cases hy4 : kindOf P pf y.op = 4
  · rw [if_pos hy4] at h
    have hx0 : kindOf P pf x.op = 0 := by
      rcases hkk : kindOf P pf x.op with _ | _ | _ | _ | _ | n
      · rfl
      all_goals
        exfalso
        simp [classB, hkk, hy4] at hcl
    obtain ⟨rfl, h0⟩ := gOp0 hx0 he
    obtain ⟨f, vs, hc⟩ := xOp_call (ops := ops.toList) hy4 h.2
    have hb : ∀ t', reads ops.toList y t' → ∀ v', look (putD st.tm x.dst v) t' = some v' → look st.tm t' = some v' := by
      intro t ht v' hv
      rw [look_putD] at hv
      split at hv
      · rename_i hd; exact absurd (reads_looks ht) (a1 t hd)
      · exact hv
    have hcall := (hc _ (fun _ _ _ h => h) K).1 h.2
    unfold xOneA
    rw [if_pos hy4]
    refine ⟨h.1, (hc st hb _).2 (ACallF.mono hcall fun u M' hk => ?_)⟩
    have : gOp P G pf ops.toList x (putD st.tm y.dst u) M'.get M'.next = some (v, .none) := by
      refine gOp_le (fun t ht v' hv => ?_) (h0 _ _)
      rw [look_putD]
      split
      · rename_i hd; exact absurd (reads_looks ht) (a3 t hd)
      · exact hv
    simp only [if_neg hx4, this]
    exact ⟨trivial, _, hk, hperm u, rfl⟩
  · rw [if_neg hy4] at h
    split at h <;> try (exact h.elim)
    rename_i u f hf
    obtain ⟨hoff2, hk⟩ := h
    obtain ⟨k1, k2, k3⟩ := swap_plain hap hcl hw hfx he hf hoff2
    unfold xOneA
    rw [if_neg hy4, k1]
    refine ⟨hoff2, ?_⟩
    simp only [if_neg hx4, k2]
    exact ⟨hoff, _, hk, hperm u, k3.symm ▸ rfl⟩

theorem kind_mem {o : Oper} (hk : kindOf P pf o.op = 0 ∨ kindOf P pf o.op = 1) {st : St} {K : St → Prop} (h : xOneA P G pf av ops o st K) : xOneA P G pf av ops o st fun s => K s ∧ s.mem = st.mem := by
  have h4 : kindOf P pf o.op ≠ 4 := by rcases hk with hk | hk <;> rw [hk] <;> decide
  unfold xOneA at h ⊢
  rw [if_neg h4] at h ⊢
  split at h
  · rename_i v e he
    have : e = .none := by
      rcases hk with hk | hk
      · exact (gOp0 hk he).1
      · exact (gOp1 hk he).1
    subst this
    exact ⟨h.1, h.2, rfl⟩
  · exact h
theorem xOneA_fx {o : Oper} (hd : ∀ t, o.dst = some t → t ∉ fx) {st : St} (hf : FX av fx st.tm) {K : St → Prop} (h : xOneA P G pf av ops o st K) : xOneA P G pf av ops o st fun s => K s ∧ FX av fx s.tm := by
  have key : ∀ v, FX av fx (putD st.tm o.dst v) := by
    intro v t ht
    obtain ⟨k, off, h1, h2⟩ := hf t ht
    refine ⟨k, off, ?_, h2⟩
    rw [look_putD, if_neg (fun e => hd t e ht)]
    exact h1
  unfold xOneA at h ⊢
  split at h
  · rename_i h4
    rw [if_pos h4]
    obtain ⟨f, vs, hc⟩ := xOp_call (ops := ops) h4 h.2
    exact ⟨h.1, (hc st (fun _ _ _ h => h) _).2 (((hc st (fun _ _ _ h => h) K).1 h.2).mono fun v M' hk => ⟨hk, key v⟩)⟩
  · rename_i h4
    rw [if_neg h4]
    split at h
    · exact ⟨h.1, h.2, key _⟩
    · exact h

theorem bubble {ops : Array Oper} {j : Nat} {y : Oper} (hj : ops[j]? = some y) (L2 : List Nat) : ∀ (L1 : List Nat), (∀ i ∈ L1, ∀ x, ops[i]? = some x → x.apart ops y = true ∧ classB P pf fx x.op y.op = true ∧ ∀ t, x.dst = some t → t ∉ fx) →
    ∀ {st : St} (_ : kindOf P pf y.op ≠ 0 → st.mem.get st.mem.next = none) (_ : FX av fx st.tm) {K : St → Prop}, xDrawA P G pf av ops.toList (L1 ++ j :: L2) st K → xDrawA P G pf av ops.toList (j :: (L1 ++ L2)) st (up K)
  | [], _, st, _, _, K, h => xDrawA_mono (fun _ => up.of) h
  | i :: L1, hp, st, hw, hfx, K, h => by
    simp only [List.cons_append, xDrawA] at h
    split at h <;> try (exact h.elim)
    rename_i x hx
    have hx' : ops[i]? = some x := by simpa using hx
    obtain ⟨hap, hcl, hdf⟩ := hp i (by simp) x hx'
    have hxk : kindOf P pf y.op ≠ 0 → kindOf P pf x.op = 0 ∨ kindOf P pf x.op = 1 := by
      intro hy
      unfold classB at hcl
      split at hcl <;> first
        | (cases hcl; done)
        | (left; assumption)
        | (right; assumption)
        | (exfalso; apply hy; assumption)
    have h1 : xOneA P G pf av ops.toList x st fun s1 => xDrawA P G pf av ops.toList (j :: (L1 ++ L2)) s1 (up K) := by
      have go : ∀ s1 : St, (kindOf P pf y.op ≠ 0 → s1.mem.get s1.mem.next = none) → FX av fx s1.tm → xDrawA P G pf av ops.toList (L1 ++ j :: L2) s1 K → xDrawA P G pf av ops.toList (j :: (L1 ++ L2)) s1 (up K) :=
        fun s1 a b c => bubble hj L2 L1 (fun i hi => hp i (List.mem_cons_of_mem _ hi)) a b c
      have h' := xOneA_fx hdf hfx h
      by_cases hy : kindOf P pf y.op = 0
      · exact xOneA_mono (fun s1 hs => go s1 (fun e => absurd hy e) hs.2 hs.1) h'
      · exact xOneA_mono (fun s1 hs => go s1 (fun _ => by rw [hs.2]; exact hw hy) hs.1.2 hs.1.1) (kind_mem (hxk hy) h')
    have hj' : ops.toList[j]? = some y := by simpa using hj
    have h2 : xOneA P G pf av ops.toList x st fun s1 => xOneA P G pf av ops.toList y s1 fun s2 => xDrawA P G pf av ops.toList (L1 ++ L2) s2 (up K) := by
      refine xOneA_mono (fun s1 hs => ?_) h1
      simp only [xDrawA, hj'] at hs
      exact hs
    have h3 := swap_one hap hcl hw hfx h2
    simp only [List.cons_append, xDrawA, hj', hx]
    refine xOneA_mono (fun s2 hs => xOneA_mono (fun s3 hs3 => ?_) hs) h3
    obtain ⟨s0, k1, k2⟩ := hs3
    exact xDrawA_mono (fun _ => up.up) (xDrawA_le k2 k1)

theorem xOneA_xOp {o : Oper} (hpf : pf.ok P G) {st : St} {K : St → Prop} {v : Value} {e : Eff} (h : plainOp P G pf o.op st.tm st.mem.get st.mem.next = some (v, e)) (hk : K ⟨putD st.tm o.dst v, e.app st.mem⟩) : xOp P G o st K := by
  obtain ⟨dst, op, type, pos, after, guard⟩ := o
  unfold plainOp at h
  split at h
  · rename_i f args ts hop
    split at h <;> try (cases h; done)
    rename_i F vs hF hvs
    simp only [Option.map_eq_some_iff] at h
    obtain ⟨u, h1, h2⟩ := h
    cases h2
    simp only at hop
    subst hop
    simp only [xOp, ev, hvs, List.nil_append, List.append_nil]
    exact ACallF.mono (hpf f F vs v st.mem hF h1) (by rintro v' M' ⟨rfl, rfl⟩; exact hk)
  · simp only at h
    unfold xOp
    split
    · rename_i x args ts hop
      simp only at hop
      subst hop
      cases x <;> simp only [absOp] at h <;> cases h
    · rw [h]; exact hk

theorem xOneA_sound {ops : Array Oper} {i : Nat} {o : Oper} (hi : ops[i]? = some o) (hpf : pf.ok P G) {ρ : Nat → BI} {st : St} {a : Act} {w : World} (h : SR P G N ρ st a w) (hd : ∀ x, o.dst = some x → x < N) {K : St → Prop} (hx : xOneA P G pf av ops.toList o st K)
    {next : Act → World → Prop} {Q : Exit → Act → World → Prop} (hK : ∀ ρ' st' a' w', K st' → SR P G N ρ' st' a' w' → Step P G ρ st.mem w ρ' st'.mem w' → next a' w') : wpOp P ops Q i next a w := by
  have yes : Region.wanted o (yielded ops a.tmps) = true → xOp P G o st K → wpOp P ops Q i next a w := by
    intro hw hx
    unfold wpOp
    simp only [hi, hw, if_true]
    exact .inl (xOp_sound h hd hx hK)
  unfold xOneA at hx
  split at hx
  · exact yes (by simp [Region.wanted, hx.1]) hx.2
  · split at hx <;> try exact hx.elim
    rename_i v e hg
    obtain ⟨_, hk⟩ := hx
    unfold gOp at hg
    split at hg
    · rename_i hgd
      exact yes (by simp [Region.wanted, hgd]) (xOneA_xOp hpf hg hk)
    · rename_i j want hgd
      split at hg <;> try (cases hg; done)
      · rename_i hq
        exact yes (wantQ_sound h.tm hgd hq) (xOneA_xOp hpf hg hk)
      · rename_i hq
        cases hg
        have hw := wantQ_sound h.tm hgd hq
        unfold wpOp
        simp only [hi, hw, Bool.false_eq_true, if_false]
        refine hK ρ _ _ _ hk ⟨h.sim, ?_, by rw [put_size]; exact h.size, by rw [put_defers]; exact h.defers⟩ (Step.refl h.sim)
        exact TRel.put h.tm o.dst (by rw [h.size]; exact hd) undef_rel

/-- What an operation waits for. -/
def depsOf (ops : Array Oper) (j : Nat) : List Nat :=
  match ops[j]? with
  | some o => (o.after.toList.filter (Region.binds .any)).map (·.on)
  | none => []
def ancOf : List (Nat × List Nat) → Nat → List Nat
  | [], _ => []
  | (d, l) :: r, j => if d = j then l else ancOf r j
/-- Each operation, with all that stands before it by edges. -/
def ancs (ops : Array Oper) : List Nat → List (Nat × List Nat) → List (Nat × List Nat)
  | [], acc => acc
  | j :: r, acc => ancs ops r ((j, (List.range ops.size).filter fun i => (depsOf ops j).any fun d => d == i || (ancOf acc d).contains i) :: acc)
def DownC (ops : Array Oper) (listed : Array Bool) : Prop := ∀ j, listed.getD j false = true → ∀ d ∈ depsOf ops j, listed.getD d false = true
theorem ancOf_mem : ∀ {acc : List (Nat × List Nat)} {j i : Nat}, i ∈ ancOf acc j → ∃ l, (j, l) ∈ acc ∧ i ∈ l
  | [], _, _, h => by simp [ancOf] at h
  | (d, l) :: r, j, i, h => by
    simp only [ancOf] at h
    split at h
    · rename_i e; subst e; exact ⟨l, by simp, h⟩
    · obtain ⟨l', h1, h2⟩ := ancOf_mem h; exact ⟨l', List.mem_cons_of_mem _ h1, h2⟩
theorem ancs_good {ops : Array Oper} {listed : Array Bool} (hd : DownC ops listed) : ∀ (l : List Nat) (acc : List (Nat × List Nat)),
    (∀ p ∈ acc, (∀ d ∈ depsOf ops p.1, listed.getD d false = true) → ∀ i ∈ p.2, listed.getD i false = true) →
    ∀ p ∈ ancs ops l acc, (∀ d ∈ depsOf ops p.1, listed.getD d false = true) → ∀ i ∈ p.2, listed.getD i false = true
  | [], acc, h => h
  | j :: r, acc, h => by
    simp only [ancs]
    refine ancs_good hd r _ fun p hp => ?_
    simp only [List.mem_cons] at hp
    rcases hp with rfl | hp
    · intro hdeps i hi
      simp only [List.mem_filter, List.any_eq_true, Bool.or_eq_true, beq_iff_eq, List.contains_iff_mem] at hi
      obtain ⟨_, d, hdm, hi⟩ := hi
      rcases hi with rfl | hi
      · exact hdeps d hdm
      · obtain ⟨l, h1, h2⟩ := ancOf_mem hi
        exact h (d, l) h1 (fun d' hd' => hd d (hdeps d hdm) d' hd') i h2
    · exact h p hp

def pairB (P : Program) (pf : PF) (fx : List Tmp) (ops : Array Oper) (acc : List (Nat × List Nat)) (i j : Nat) : Bool :=
  match ops[i]?, ops[j]? with
  | some x, some y => !(depsOf ops i).contains j && i != j && ((ancOf acc j).contains i || (x.apart ops y && classB P pf fx x.op y.op))
  | _, _ => false
def allPairs (f : Nat → Nat → Bool) : List Nat → Bool
  | [] => true
  | i :: r => r.all (f i) && allPairs f r
theorem allPairs_pairwise {f : Nat → Nat → Bool} : ∀ {l : List Nat}, allPairs f l = true → l.Pairwise fun i j => f i j = true
  | [], _ => .nil
  | i :: r, h => by
    simp only [allPairs, Bool.and_eq_true, List.all_eq_true] at h
    exact .cons h.1 (allPairs_pairwise h.2)
/-- THE CHECK: a row of all operations, such that what no edge orders may come in either order. -/
def drawB (P : Program) (pf : PF) (fx : List Tmp) (N : Nat) (ops : Array Oper) (perm : List Nat) : Bool :=
  perm.length == ops.size && (List.range ops.size).all (perm.contains ·) && allPairs (pairB P pf fx ops (ancs ops perm [])) perm &&
  perm.all fun i => match ops[i]? with
    | some o => !(depsOf ops i).contains i && (depsOf ops i).all (perm.contains ·) && (match o.dst with | some d => decide (d < N) && !fx.contains d | none => true)
    | none => false

theorem draw_any {ops : Array Oper} {perm : List Nat} (hpf : pf.ok P G) (hlen : perm.length = ops.size) (hpw : perm.Pairwise fun i j => pairB P pf fx ops (ancs ops perm []) i j = true)
    (hall : ∀ i ∈ perm, ∃ o, ops[i]? = some o ∧ i ∉ depsOf ops i ∧ (∀ d ∈ depsOf ops i, d ∈ perm) ∧ ∀ d, o.dst = some d → d < N ∧ d ∉ fx) (hfull : ∀ i, i < ops.size → i ∈ perm) {Q : Exit → Act → World → Prop} :
    ∀ (fuel : Nat) (rem : List Nat), rem.length = fuel → rem.Sublist perm → ∀ (listed : Array Bool), listed.size = ops.size → (∀ j, j < ops.size → (listed.getD j false = false ↔ j ∈ rem)) → DownC ops listed →
    ∀ {ρ : Nat → BI} {st : St} {a : Act} {w : World}, SR P G N ρ st a w → FX av fx st.tm → ∀ {K : St → Prop}, xDrawA P G pf av ops.toList rem st K →
    (∀ ρ' st' a' w', up K st' → SR P G N ρ' st' a' w' → Step P G ρ st.mem w ρ' st'.mem w' → Q .normal a' w') → wpAny P .any ops Q fuel listed a w
  | 0, rem, hl, hsub, listed, hsz, hlist, hdown, ρ, st, a, w, hr, hfx, K, hx, hQ => by
    have : rem = [] := List.eq_nil_of_length_eq_zero hl
    subst this
    refine ⟨?_, hQ ρ st a w (up.of hx) hr (Step.refl hr.sim)⟩
    rw [List.eq_nil_iff_forall_not_mem]
    intro j hj
    rw [mem_ready] at hj
    obtain ⟨h1, o, h2, _⟩ := hj
    have hlt := (Array.getElem?_eq_some_iff.1 h2).1
    have h3 : listed.getD j false = false := by
      have h4 : j < listed.size := by omega
      simp only [Array.getD, h4, dif_pos] at h1 ⊢
      exact h1
    have h5 := (hlist j hlt).1 h3
    cases h5
  | fuel + 1, rem, hl, hsub, listed, hsz, hlist, hdown, ρ, st, a, w, hr, hfx, K, hx, hQ => by
    have getDD : ∀ j, j < ops.size → listed.getD j true = listed.getD j false := by
      intro j hj
      have h4 : j < listed.size := by omega
      simp only [Array.getD, h4, dif_pos]
    constructor
    · intro hnil
      exfalso
      cases rem with
      | nil => simp at hl
      | cons h r =>
        have hp : h ∈ perm := hsub.subset (by simp)
        obtain ⟨o, ho, hself, hin, _⟩ := hall h hp
        have hlt := (Array.getElem?_eq_some_iff.1 ho).1
        have hready : h ∈ Region.ready .any ops listed := by
          rw [mem_ready]
          refine ⟨by rw [getDD h hlt]; exact (hlist h hlt).2 (by simp), o, ho, fun e he hb => ?_⟩
          have hdep : e.on ∈ depsOf ops h := by
            simp only [depsOf, ho, List.mem_map, List.mem_filter]
            exact ⟨e, ⟨by simpa using he, hb⟩, rfl⟩
          have hep := hin _ hdep
          obtain ⟨oe, hoe, _⟩ := hall _ hep
          have hlte := (Array.getElem?_eq_some_iff.1 hoe).1
          cases hv : listed.getD e.on false with
          | true => rfl
          | false =>
            exfalso
            have hm := (hlist _ hlte).1 hv
            simp only [List.mem_cons] at hm
            rcases hm with hm | hm
            · exact hself (hm ▸ hdep)
            · have := (List.Pairwise.sublist hsub hpw)
              rw [List.pairwise_cons] at this
              have h5 := this.1 _ hm
              simp only [pairB, ho, hoe, Bool.and_eq_true, Bool.not_eq_true', List.contains_eq_mem, decide_eq_false_iff_not] at h5
              exact h5.1.1 hdep
        rw [hnil] at hready
        cases hready
    · intro i hi
      have hi' := hi
      rw [mem_ready] at hi'
      obtain ⟨h1, o, ho, hdeps⟩ := hi'
      have hlt := (Array.getElem?_eq_some_iff.1 ho).1
      rw [getDD i hlt] at h1
      have hmem := (hlist i hlt).1 h1
      have hnd : rem.Nodup := by
        refine List.Pairwise.imp ?_ (List.Pairwise.sublist hsub hpw)
        intro x y hxy
        unfold pairB at hxy
        split at hxy <;> simp at hxy
        exact hxy.1.2
      obtain ⟨L1, L2, rfl⟩ := List.append_of_mem hmem
      have hdeps' : ∀ d ∈ depsOf ops i, listed.getD d false = true := by
        intro d hd
        simp only [depsOf, ho, List.mem_map, List.mem_filter] at hd
        obtain ⟨e, ⟨he, hb⟩, rfl⟩ := hd
        exact hdeps e (by simpa using he) hb
      have hpw' := List.Pairwise.sublist hsub hpw
      rw [List.pairwise_append] at hpw'
      have hb := bubble (P := P) (G := G) (pf := pf) (av := av) (fx := fx) ho L2 L1 (fun i' hi' x hx' => by
        have h5 := hpw'.2.2 i' hi' i (by simp)
        simp only [pairB, hx', ho, Bool.and_eq_true, Bool.or_eq_true, bne_iff_ne, ne_eq] at h5
        have hip := hsub.subset (List.mem_append_left _ hi')
        obtain ⟨o', ho', _, _, hdst⟩ := hall i' hip
        rw [hx'] at ho'
        cases ho'
        rcases h5.2 with h6 | h6
        · exfalso
          simp only [List.contains_iff_mem] at h6
          obtain ⟨l, h7, h8⟩ := ancOf_mem h6
          have h9 := ancs_good hdown perm [] (by simp) (i, l) h7 hdeps' i' h8
          have hlt' := (Array.getElem?_eq_some_iff.1 hx').1
          have := (hlist i' hlt').2 (by simp [hi'])
          rw [this] at h9
          cases h9
        · exact ⟨h6.1, h6.2, fun t ht => (hdst t ht).2⟩) (st := st) (fun _ => by
          cases hg : st.mem.get st.mem.next with
          | none => rfl
          | some o => exact absurd (hr.sim.live _ _ hg) (Nat.lt_irrefl _)) hfx hx
      have ho' : ops.toList[i]? = some o := by simpa using ho
      simp only [xDrawA, ho'] at hb
      obtain ⟨o2, ho2, _, _, hdst⟩ := hall i (hsub.subset hmem)
      rw [ho] at ho2
      cases ho2
      have hb' := xOneA_fx (fun t ht => (hdst t ht).2) hfx hb
      refine xOneA_sound ho hpf hr (fun x hx' => (hdst x hx').1) hb' fun ρ' st' a' w' hk hr' hs => ?_
      refine draw_any hpf hlen hpw hall hfull fuel (L1 ++ L2) (by simp at hl ⊢; omega) (List.Sublist.trans (List.Sublist.append_left (List.sublist_cons_self _ _) _) hsub) (listed.setIfInBounds i true) (by simp [hsz]) ?_ ?_ hr' hk.2 hk.1
        (fun ρ2 st2 a2 w2 k1 k2 k3 => hQ ρ2 st2 a2 w2 (up.up k1) k2 (hs.trans k3))
      · intro j hj
        by_cases hji : i = j
        · subst hji
          have h4 : i < listed.size := by omega
          simp only [List.nodup_append, List.nodup_cons] at hnd
          have hni : i ∉ L1 ++ L2 := by
            intro hm
            simp only [List.mem_append] at hm
            rcases hm with hm | hm
            · exact hnd.2.2 i hm i (by simp) rfl
            · exact hnd.2.1.1 hm
          simp [h4] at hni ⊢
          exact hni
        · rw [getD_set_ne false hji, hlist j hj]
          simp only [List.mem_append, List.mem_cons]
          constructor
          · rintro (h | h | h)
            · exact .inl h
            · exact absurd h.symm hji
            · exact .inr h
          · rintro (h | h)
            · exact .inl h
            · exact .inr (.inr h)
      · intro j hj d hd
        by_cases hji : i = j
        · subst hji; exact getD_set_true (hdeps' d hd)
        · rw [getD_set_ne false hji] at hj; exact getD_set_true (hdown j hj d hd)

theorem SR.drawn {ρ : Nat → BI} {st : St} {a : Act} {w : World} (h : SR P G N ρ st a w) (n : Nat) : SR P G N ρ st a { w with drawn := n } :=
  ⟨⟨h.sim.glob, h.sim.globs, h.sim.live, h.sim.inj, h.sim.objs⟩, h.tm, h.size, h.defers⟩

/-- A REGION THAT DRAWS ITS ORDER: one order will do. -/
theorem ADraw.way {ops : Array Oper} {perm : List Nat} {id : Nat} {st : St} {K : St → Prop} (hm : P.follows .mixedOrders = true) (hpf : pf.ok P G) (hc : drawB P pf fx N ops perm = true) (hfx : FX av fx st.tm)
    (h : xDrawA P G pf av ops.toList perm st K) : ADraw P G N id ops st K := by
  simp only [drawB, Bool.and_eq_true, beq_iff_eq, List.all_eq_true] at hc
  obtain ⟨⟨⟨h1, h0⟩, h2⟩, h3⟩ := hc
  intro ρ w a hr
  have hall : ∀ i ∈ perm, ∃ o, ops[i]? = some o ∧ i ∉ depsOf ops i ∧ (∀ d ∈ depsOf ops i, d ∈ perm) ∧ ∀ d, o.dst = some d → d < N ∧ d ∉ fx := by
    intro i hi
    have := h3 i hi
    split at this <;> try (cases this; done)
    rename_i o ho
    simp only [Bool.and_eq_true, Bool.not_eq_true', List.contains_eq_mem, decide_eq_false_iff_not, List.all_eq_true, decide_eq_true_eq] at this
    refine ⟨o, ho, this.1.1, this.1.2, fun d hd => ?_⟩
    have h5 := this.2
    rw [hd] at h5
    simp only [Bool.and_eq_true, decide_eq_true_eq, Bool.not_eq_true', List.contains_eq_mem, decide_eq_false_iff_not] at h5
    exact h5
  have hpw := allPairs_pairwise h2
  have hfull : ∀ i, i < ops.size → i ∈ perm := by
    intro i hi
    have := h0 i (List.mem_range.2 hi)
    simpa using this
  refine wp_region_any hm ?_
  have hinit : ∀ j, (Array.replicate ops.size false).getD j false = false := by
    intro j
    by_cases hj : j < ops.size <;> simp [hj]
  refine draw_any hpf h1 hpw hall hfull ops.size perm h1 (List.Sublist.refl _) (Array.replicate ops.size false) (by simp) ?_ ?_ (SR.drawn hr _) hfx h ?_
  · intro j hj
    simp only [hinit, true_iff]
    exact hfull j hj
  · intro j hj
    rw [hinit] at hj
    cases hj
  · intro ρ' st' a' w' k1 k2 k3
    obtain ⟨s0, k4, k5⟩ := k1
    obtain ⟨k6, k7⟩ := k2.less (s := s0) ⟨k5.1, by rw [k5.2], by rw [k5.2]; exact fun _ _ h => h⟩
    have k8 : Step P G ρ st.mem w ρ' st'.mem w' := ⟨k3.sim, k3.rho, k3.know, k3.os, k3.tape, k3.output, k3.size, k3.frame, k3.old, k3.new⟩
    exact ⟨ρ', s0, k4, k6, k8.trans k7⟩
end
end Go.AL
end
