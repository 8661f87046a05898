/-
  A help text: an abstract memory, and rules that run a loaded function over it (parts 17 to 21). No statement of the seat stands here.
-/
import Derived.Test.YtpljlblmagodlaaDoorA2
import Derived.Laws.Strings
import Derived.Lib.Bytealg
set_option linter.unusedVariables false
set_option linter.unusedSimpArgs false
/- The library of this session's own, part 17: the rules by which a piece of code is run on a state, for simp. -/
section
namespace Go.AL
open Go

/-- A mark by which simp lets a part alone. -/
inductive Mark {α : Type} (a : α) : Type where
  | mk : Mark a
/-- What is still to be looked at. -/
def nf (st : St) : St := st
theorem nf_mk {tm : List (Nat × Value)} {M : Mem} : nf ⟨tm, M⟩ = ⟨tm, M⟩ := by cases M; rfl
/-- Two ways. -/
def Br (b : Bool) (A B : Prop) (_ : Mark (A, B) := .mk) : Prop := (b = true → A) ∧ (b = false → B)
theorem Br_true {A B : Prop} {m : Mark (A, B)} : Br true A B m = A := by simp [Br]
theorem Br_false {A B : Prop} {m : Mark (A, B)} : Br false A B m = B := by simp [Br]
theorem Br.mk {b : Bool} {A B : Prop} {m : Mark (A, B)} (h1 : b = true → A) (h2 : b = false → B) : Br b A B m := ⟨h1, h2⟩
theorem Br.of {c : Prop} [Decidable c] {A B : Prop} {m : Mark (A, B)} (h1 : c → A) (h2 : ¬ c → B) : Br (decide c) A B m := ⟨fun h => h1 (by simpa using h), fun h => h2 (by simpa using h)⟩

def O1 {α : Type} (o : Option α) (K : α → Prop) (_ : Mark K := .mk) : Prop :=
  match o with
  | some v => K v
  | none => False
theorem O1_some {α : Type} {v : α} {K : α → Prop} {m : Mark K} : O1 (some v) K m = K v := rfl
theorem O1_none {α : Type} {K : α → Prop} {m : Mark K} : O1 none K m = False := rfl
theorem O1_map {α β : Type} {o : Option α} {f : α → β} {K : β → Prop} {m : Mark K} : O1 (o.map f) K m = O1 o (fun x => K (f x)) := by cases o <;> rfl
theorem O1_bind {α β : Type} {o : Option α} {f : α → Option β} {K : β → Prop} {m : Mark K} : O1 (o.bind f) K m = O1 o (fun x => O1 (f x) K) := by cases o <;> rfl
theorem O1_if {α : Type} {c : Prop} [Decidable c] {o : Option α} {K : α → Prop} {m : Mark K} : O1 (if c then o else none) K m = (c ∧ O1 o K) := by
  by_cases h : c <;> simp [h, O1]
theorem O1_ifn {α : Type} {c : Prop} [Decidable c] {o : Option α} {K : α → Prop} {m : Mark K} : O1 (if c then none else o) K m = (¬ c ∧ O1 o K) := by
  by_cases h : c <;> simp [h, O1]
theorem O1_of {α : Type} {o : Option α} {v : α} {K : α → Prop} {m : Mark K} (h : o = some v) (hk : K v) : O1 o K m := by rw [h]; exact hk

/-- The same as 'xOps', 'ACallF', 'ALoop', 'AScope', 'ADraw', marked. -/
def XO (P : Program) (G : Nat) (ops r : List Oper) (st : St) (K : St → Prop) (_ : Mark K := .mk) : Prop := xOps P G ops r st K
def CF (P : Program) (G : Nat) (f : FuncId) (args : List Value) (M : Mem) (Q : Value → Mem → Prop) (_ : Mark Q := .mk) : Prop := ACallF P G f args M Q
def LP (P : Program) (G N : Nat) (c : Code) (st : St) (Q : Exit → St → Prop) (_ : Mark Q := .mk) : Prop := ALoop P G N c st Q
def SC (P : Program) (G N : Nat) (b c : Code) (st : St) (Q : Exit → St → Prop) (_ : Mark Q := .mk) : Prop := AScope P G N b c st Q
def DR (P : Program) (G N : Nat) (id : Nat) (os : Array Oper) (st : St) (K : St → Prop) (_ : Mark K := .mk) : Prop := ADraw P G N id os st K

section
variable {P : Program} {G N : Nat} {ops r : List Oper} {d : Option Tmp} {ty : TypeId} {pos : String} {af : Array Edge} {tm : List (Nat × Value)} {M : Mem} {K : St → Prop} {Q : Exit → St → Prop}

@[congr] theorem XO_congr {m : Mark K} {st st' : St} (h : st = st') : XO P G ops r st K m = XO P G ops r st' K m := by rw [h]
@[congr] theorem LP_congr {m : Mark Q} {c : Code} {st st' : St} (h : st = st') : LP P G N c st Q m = LP P G N c st' Q m := by rw [h]
@[congr] theorem SC_congr {m : Mark Q} {b c : Code} {st st' : St} (h : st = st') : SC P G N b c st Q m = SC P G N b c st' Q m := by rw [h]
@[congr] theorem DR_congr {m : Mark K} {id : Nat} {os : Array Oper} {st st' : St} (h : st = st') : DR P G N id os st K m = DR P G N id os st' K m := by rw [h]

-- code
theorem x_skip {st : St} : xCode P G N .skip st Q = Q .normal st := rfl
theorem x_region {id : Nat} {os : List Oper} {st : St} : xCode P G N (.region id os.toArray false) st Q = XO P G os os (nf st) (Q .normal) := by simp [xCode, nf, XO]
theorem x_draw {id : Nat} {os : Array Oper} {st : St} : xCode P G N (.region id os true) st Q = DR P G N id os (nf st) (Q .normal) := rfl
theorem x_seq {a b : Code} {st : St} : xCode P G N (.seq a b) st Q = xCode P G N a st (thenQ Q fun st' => xCode P G N b st' Q) := rfl
theorem x_block {id : Nat} {b : Code} {st : St} : xCode P G N (.block id b) st Q = xCode P G N b st (blockQ Q id) := rfl
theorem x_loop {b : Code} {st : St} : xCode P G N (.loop b) st Q = LP P G N b (nf st) Q := rfl
theorem x_scope {b : Code} {st : St} : xCode P G N (.scope b) st Q = SC P G N b b (nf st) Q := rfl
theorem x_exit {id : Nat} {st : St} : xCode P G N (.exit id) st Q = Q (.exit id) st := rfl
theorem x_ret {st : St} : xCode P G N .ret st Q = Q .ret st := rfl
theorem x_goto {l : Nat} {st : St} : xCode P G N (.goto l) st Q = Q (.goto l) st := rfl
theorem x_label {l : Nat} {st : St} : xCode P G N (.label l) st Q = Q .normal st := rfl
/-- A way by a value. -/
def W1 (o : Option Value) (A B : Prop) (_ : Mark (A, B) := .mk) : Prop :=
  match o with
  | some (.bool b) => Br b A B
  | _ => False
theorem W1_bool {b : Bool} {A B : Prop} {m : Mark (A, B)} : W1 (some (.bool b)) A B m = Br b A B := rfl
theorem x_cond {c : Operand} {a b : Code} {tm : List (Nat × Value)} {M : Mem} : xCode P G N (.cond c a b) ⟨tm, M⟩ Q = W1 (ev G tm c) (xCode P G N a ⟨tm, M⟩ Q) (xCode P G N b ⟨tm, M⟩ Q) := by
  simp only [xCode, W1, Br]
  split <;> simp_all
theorem thenQ_normal {next : St → Prop} {st : St} : thenQ Q next .normal st = next st := rfl
theorem thenQ_ret {next : St → Prop} {st : St} : thenQ Q next .ret st = Q .ret st := rfl
theorem thenQ_exit {next : St → Prop} {st : St} {id : Nat} : thenQ Q next (.exit id) st = Q (.exit id) st := rfl
theorem thenQ_goto {next : St → Prop} {st : St} {l : Nat} : thenQ Q next (.goto l) st = Q (.goto l) st := rfl
theorem thenQ_normal' {next : St → Prop} : thenQ Q next .normal = next := rfl
theorem blockQ_normal {id : Nat} {st : St} : blockQ Q id .normal st = Q .normal st := rfl
theorem blockQ_normal' {id : Nat} : blockQ Q id .normal = Q .normal := rfl
theorem blockQ_ret {id : Nat} {st : St} : blockQ Q id .ret st = Q .ret st := rfl
theorem blockQ_exit {id id' : Nat} {st : St} : blockQ Q id (.exit id') st = if id' = id then Q .normal st else Q (.exit id') st := rfl
theorem blockQ_goto {id l : Nat} {st : St} : blockQ Q id (.goto l) st = Q (.goto l) st := rfl

-- slots
theorem look_cons {a t : Nat} {v : Value} {l : List (Nat × Value)} : look ((a, v) :: l) t = bif a == t then some v else look l t := by
  by_cases h : a = t
  · subst h; simp [look]
  · have e : (a == t) = false := by simp [h]
    rw [e, look, if_neg h]; rfl
theorem look_nil {t : Nat} : look [] t = none := rfl
theorem putD_some {t : Tmp} {v : Value} : putD tm (some t) v = putL tm t v := rfl
theorem putD_none {v : Value} : putD tm none v = tm := rfl
theorem putL_nil {t : Nat} {v : Value} : putL [] t v = [(t, v)] := rfl
theorem putL_cons {a t : Nat} {u v : Value} {l : List (Nat × Value)} : putL ((a, u) :: l) t v = bif a == t then (a, v) :: l else (a, u) :: putL l t v := by
  by_cases h : a = t
  · subst h; simp [putL]
  · have e : (a == t) = false := by simp [h]
    rw [e, putL, if_neg h]; rfl
theorem ev_tmp {t : Tmp} : ev G tm (.tmp t) = look tm t := rfl
theorem ev_const {v : Value} : ev G tm (.const v) = if flatV v = true then some v else none := rfl
theorem ev_int {k : IntKind} {n : Int} : ev G tm (.const (.int k n)) = some (.int k n) := rfl
theorem ev_bool {b : Bool} : ev G tm (.const (.bool b)) = some (.bool b) := rfl
theorem ev_string {s : ByteArray} : ev G tm (.const (.string s)) = some (.string s) := rfl
theorem ev_nil : ev G tm (.const (.pointer none)) = some (.pointer none) := rfl
theorem ev_nilSlice : ev G tm (.const (.slice none 0 0)) = some (.slice none 0 0) := rfl
theorem ev_nilFunc : ev G tm (.const .nilFunc) = some .nilFunc := rfl
theorem ev_nilIface : ev G tm (.const .nilIface) = some .nilIface := rfl
theorem ev_func {f : FuncId} : ev G tm (.func f) = some (.func (.func f) #[] #[]) := rfl
theorem ev_global {g : Nat} : ev G tm (.global g) = if g < G then some (.pointer (some ⟨g, 0, none⟩)) else none := rfl
theorem evL_nil : evL G tm [] = some [] := rfl
theorem evL_cons {x : Operand} {l : List Operand} : evL G tm (x :: l) = (ev G tm x).bind fun v => (evL G tm l).map fun vs => v :: vs := by
  simp only [evL]
  cases ev G tm x <;> cases evL G tm l <;> rfl
theorem evP_nil : evP G tm [] = some [] := rfl
theorem evP_cons {i : Nat} {x : Operand} {l : List (Nat × Operand)} : evP G tm ((i, x) :: l) = (ev G tm x).bind fun v => (evP G tm l).map fun vs => (i, v) :: vs := by
  simp only [evP]
  cases ev G tm x <;> cases evP G tm l <;> rfl
theorem evO_none : evO G tm none = some none := rfl
theorem evO_some {x : Operand} : evO G tm (some x) = (ev G tm x).map some := rfl

-- rows of operations
theorem x_nil {st : St} {mm : Mark K} : XO P G ops [] st K mm = K st := rfl
theorem x_none {op : Op} {st : St} : xOps P G ops (⟨d, op, ty, pos, af, none⟩ :: r) st K = xOp P G ⟨d, op, ty, pos, af, none⟩ st fun st' => xOps P G ops r st' K := rfl
/-- A way by a guard. -/
def G1 (o : Option Value) (w : Bool) (A B : Prop) (_ : Mark (A, B) := .mk) : Prop :=
  match wantQ o w with
  | some b => Br b A B
  | none => False
theorem G1_undef {w : Bool} {A B : Prop} {m : Mark (A, B)} : G1 (some (.tuple #[])) w A B m = B := by simp [G1, wantQ, Br]
theorem G1_true {b : Bool} {A B : Prop} {m : Mark (A, B)} : G1 (some (.bool b)) true A B m = Br b A B := by cases b <;> rfl
theorem G1_false {b : Bool} {A B : Prop} {m : Mark (A, B)} : G1 (some (.bool b)) false A B m = Br b B A := by cases b <;> simp [G1, wantQ, Br]
theorem undef_eq : undef = .tuple #[] := rfl
theorem x_guard {op : Op} {j : Nat} {w : Bool} {mm : Mark K} : XO P G ops (⟨d, op, ty, pos, af, some (j, w)⟩ :: r) ⟨tm, M⟩ K mm =
    G1 (((ops[j]?).bind (·.dst)).bind (look tm)) w (XO P G ops (⟨d, op, ty, pos, af, none⟩ :: r) ⟨tm, M⟩ K) (XO P G ops r ⟨putD tm d undef, M⟩ K) := by
  simp only [XO, xOps, G1, Br]
  cases wantQ (((ops[j]?).bind (·.dst)).bind (look tm)) w with
  | none => rfl
  | some b =>
    cases b <;> simp
    rfl
theorem x_move {x : Operand} {mm : Mark K} : XO P G ops (⟨d, .move x, ty, pos, af, none⟩ :: r) ⟨tm, M⟩ K mm = O1 (ev G tm x) fun v => XO P G ops r ⟨putD tm d v, M⟩ K := by
  simp only [XO, x_none, xOp, absOp]; cases ev G tm x <;> rfl
theorem x_assign {x : Operand} {mm : Mark K} : XO P G ops (⟨d, .assign x, ty, pos, af, none⟩ :: r) ⟨tm, M⟩ K mm = O1 (ev G tm x) fun v => XO P G ops r ⟨putD tm d v, M⟩ K := by
  simp only [XO, x_none, xOp, absOp]; cases ev G tm x <;> rfl
theorem x_pick {c x y : Operand} {mm : Mark K} : XO P G ops (⟨d, .pick c x y, ty, pos, af, none⟩ :: r) ⟨tm, M⟩ K mm =
    W1 (ev G tm c) (O1 (ev G tm x) fun v => XO P G ops r ⟨putD tm d v, M⟩ K) (O1 (ev G tm y) fun v => XO P G ops r ⟨putD tm d v, M⟩ K) := by
  simp only [XO, x_none, xOp, absOp, W1, Br]
  cases h : ev G tm c with
  | none => rfl
  | some v =>
    cases v <;> simp only
    rename_i b
    cases b <;> simp
    · cases ev G tm y <;> rfl
    · cases ev G tm x <;> rfl
/-- A new variable's block. -/
def newQ (P : Program) (t : TypeId) : Option AObj := (zeroF P t).bind fun l => aNew t l
theorem x_alloc {t : TypeId} {mm : Mark K} : XO P G ops (⟨d, .alloc t, ty, pos, af, none⟩ :: r) ⟨tm, M⟩ K mm = O1 (newQ P t) fun a => XO P G ops r ⟨putD tm d (.pointer (some ⟨M.next, 0, none⟩)), M.alloc a⟩ K := by
  simp only [XO, x_none, xOp, absOp, newQ]
  cases zeroF P t with
  | none => rfl
  | some l => simp only [Option.bind_some]; cases aNew t l <;> rfl
theorem x_box {t : TypeId} {x : Operand} {mm : Mark K} : XO P G ops (⟨d, .box t x, ty, pos, af, none⟩ :: r) ⟨tm, M⟩ K mm =
    O1 (ev G tm x) fun v => O1 (aNew t (cl v)) fun a => XO P G ops r ⟨putD tm d (.pointer (some ⟨M.next, 0, none⟩)), M.alloc a⟩ K := by
  simp only [XO, x_none, xOp, absOp]
  cases ev G tm x with
  | none => rfl
  | some v => simp only [Option.bind_some, cells_cl, O1_some]; cases aNew t (cl v) <;> rfl
theorem x_build {t : TypeId} {ps : Array (Nat × Operand)} {mm : Mark K} : XO P G ops (⟨d, .build t ps, ty, pos, af, none⟩ :: r) ⟨tm, M⟩ K mm =
    O1 (evP G tm ps.toList) fun vs => O1 (aBuild P t vs) fun v => XO P G ops r ⟨putD tm d v, M⟩ K := by
  simp only [XO, x_none, xOp, absOp]
  cases evP G tm ps.toList with
  | none => rfl
  | some vs => simp only [Option.bind_some, O1_some]; cases aBuild P t vs <;> rfl
theorem x_buildSlice {t : TypeId} {len : Nat} {ps : Array (Nat × Operand)} {mm : Mark K} : XO P G ops (⟨d, .buildSlice t len ps, ty, pos, af, none⟩ :: r) ⟨tm, M⟩ K mm =
    O1 (evP G tm ps.toList) fun vs => O1 (aBuildSlice P t len vs) fun e => O1 (aNew e.1 e.2) fun a => XO P G ops r ⟨putD tm d (.slice (some ⟨M.next, 0, none⟩) len len), M.alloc a⟩ K := by
  simp only [XO, x_none, xOp, absOp]
  cases evP G tm ps.toList with
  | none => rfl
  | some vs =>
    simp only [Option.bind_some, O1_some]
    cases aBuildSlice P t len vs with
    | none => rfl
    | some e => simp only [Option.bind_some, O1_some]; cases aNew e.1 e.2 <;> rfl
theorem x_load {t : TypeId} {x : Operand} {mm : Mark K} : XO P G ops (⟨d, .load t x, ty, pos, af, none⟩ :: r) ⟨tm, M⟩ K mm =
    O1 (ev G tm x) fun v => O1 (aLoad P t M.get v) fun u => XO P G ops r ⟨putD tm d u, M⟩ K := by
  simp only [XO, x_none, xOp, absOp]
  cases ev G tm x with
  | none => rfl
  | some v => simp only [Option.bind_some, O1_some]; cases aLoad P t M.get v <;> rfl
theorem x_store {t : TypeId} {x y : Operand} {mm : Mark K} : XO P G ops (⟨d, .store t x y, ty, pos, af, none⟩ :: r) ⟨tm, M⟩ K mm =
    O1 (ev G tm x) fun v => O1 (ev G tm y) fun u => O1 (aStore P t M.get v u) fun e => XO P G ops r ⟨putD tm d undef, M.set e.1 e.2⟩ K := by
  simp only [XO, x_none, xOp, absOp]
  cases ev G tm x with
  | none => rfl
  | some v =>
    cases ev G tm y with
    | none => rfl
    | some u => simp only [O1_some]; cases aStore P t M.get v u <;> rfl
def nilO : Value → Option Value
  | .pointer (some p) => some (.pointer (some p))
  | .func (.func f) x y => some (.func (.func f) x y)
  | _ => none
theorem nilO_ptr {p : Addr} : nilO (.pointer (some p)) = some (.pointer (some p)) := rfl
theorem nilO_func {f : FuncId} {x y : Array Value} : nilO (.func (.func f) x y) = some (.func (.func f) x y) := rfl
theorem x_nilCheck {x : Operand} {mm : Mark K} : XO P G ops (⟨d, .nilCheck x, ty, pos, af, none⟩ :: r) ⟨tm, M⟩ K mm = O1 (ev G tm x) fun v => O1 (nilO v) fun u => XO P G ops r ⟨putD tm d u, M⟩ K := by
  simp only [XO, x_none, xOp, absOp]
  cases ev G tm x with
  | none => rfl
  | some v =>
    simp only [O1_some]
    cases v <;> try rfl
    · rename_i a; cases a <;> rfl
    · rename_i f a b; cases f <;> rfl
def binV (P : Program) (op : BinOp) (t : TypeId) (c : Bool) (v u : Value) : Option Value :=
  match v with
  | .int _ _ | .string _ => aBin op v u
  | _ => aCmp P op t c v u
theorem x_binOp {op : BinOp} {t ty' : TypeId} {x y : Operand} {mm : Mark K} : XO P G ops (⟨d, .binOp op t x y ty', ty, pos, af, none⟩ :: r) ⟨tm, M⟩ K mm =
    O1 (ev G tm x) fun v => O1 (ev G tm y) fun u => O1 (binV P op t (constOp x || constOp y) v u) fun r' => XO P G ops r ⟨putD tm d r', M⟩ K := by
  simp only [XO, x_none, xOp, absOp]
  cases ev G tm x with
  | none => rfl
  | some v =>
    cases ev G tm y with
    | none => rfl
    | some u =>
      simp only [O1_some]
      change (match Option.map (fun r => (r, Eff.none)) (binV P op t (constOp x || constOp y) v u) with | some (v, e) => _ | none => False) = _
      cases binV P op t (constOp x || constOp y) v u <;> rfl
theorem x_unOp {op : UnOp} {t : TypeId} {x : Operand} {mm : Mark K} : XO P G ops (⟨d, .unOp op t x, ty, pos, af, none⟩ :: r) ⟨tm, M⟩ K mm = O1 (ev G tm x) fun v => O1 (aUn op v) fun u => XO P G ops r ⟨putD tm d u, M⟩ K := by
  simp only [XO, x_none, xOp, absOp]
  cases ev G tm x with
  | none => rfl
  | some v => simp only [Option.bind_some, O1_some]; cases aUn op v <;> rfl
theorem x_convert {s t : TypeId} {x : Operand} {mm : Mark K} : XO P G ops (⟨d, .convert s t x, ty, pos, af, none⟩ :: r) ⟨tm, M⟩ K mm = O1 (ev G tm x) fun v => O1 (aConvert P s t M.get v) fun u => XO P G ops r ⟨putD tm d u, M⟩ K := by
  simp only [XO, x_none, xOp, absOp]
  cases ev G tm x with
  | none => rfl
  | some v => simp only [Option.bind_some, O1_some]; cases aConvert P s t M.get v <;> rfl
theorem x_makeInterface {t : TypeId} {x : Operand} {mm : Mark K} : XO P G ops (⟨d, .makeInterface t x, ty, pos, af, none⟩ :: r) ⟨tm, M⟩ K mm = O1 (ev G tm x) fun v => O1 (aIface P t v) fun u => XO P G ops r ⟨putD tm d u, M⟩ K := by
  simp only [XO, x_none, xOp, absOp]
  cases ev G tm x with
  | none => rfl
  | some v => simp only [Option.bind_some, O1_some]; cases aIface P t v <;> rfl
theorem x_makeFunc {f : FuncId} {a b : Array Operand} {mm : Mark K} : XO P G ops (⟨d, .makeFunc (.func f) a b, ty, pos, af, none⟩ :: r) ⟨tm, M⟩ K mm =
    O1 (evL G tm a.toList) fun l => O1 (evL G tm b.toList) fun m => XO P G ops r ⟨putD tm d (.func (.func f) l.toArray m.toArray), M⟩ K := by
  simp only [XO, x_none, xOp, absOp]
  cases evL G tm a.toList with
  | none => rfl
  | some l => cases evL G tm b.toList <;> rfl
theorem x_makeSlice {t : TypeId} {l c : Operand} {mm : Mark K} : XO P G ops (⟨d, .makeSlice t l c, ty, pos, af, none⟩ :: r) ⟨tm, M⟩ K mm =
    O1 (ev G tm l) fun v => O1 (ev G tm c) fun u => O1 (aMake P t v u) fun m => O1 (aNew m.1 m.2.2.2) fun a => XO P G ops r ⟨putD tm d (.slice (some ⟨M.next, 0, none⟩) m.2.1 m.2.2.1), M.alloc a⟩ K := by
  simp only [XO, x_none, xOp, absOp]
  cases ev G tm l with
  | none => rfl
  | some v =>
    cases ev G tm c with
    | none => rfl
    | some u =>
      simp only [O1_some]
      cases aMake P t v u with
      | none => rfl
      | some m => obtain ⟨e, ln, cn, cs⟩ := m; simp only [Option.bind_some, O1_some]; cases aNew e cs <;> rfl
theorem x_slice {t : TypeId} {x : Operand} {lo hi mx : Option Operand} {mm : Mark K} : XO P G ops (⟨d, .slice t x lo hi mx, ty, pos, af, none⟩ :: r) ⟨tm, M⟩ K mm =
    O1 (ev G tm x) fun v => O1 (evO G tm lo) fun l => O1 (evO G tm hi) fun h => O1 (evO G tm mx) fun m => O1 (aSlice P t M.get v l h m) fun u => XO P G ops r ⟨putD tm d u, M⟩ K := by
  simp only [XO, x_none, xOp, absOp]
  cases ev G tm x with
  | none => rfl
  | some v =>
    cases evO G tm lo with
    | none => rfl
    | some l =>
      cases evO G tm hi with
      | none => rfl
      | some h =>
        cases evO G tm mx with
        | none => rfl
        | some m => simp only [O1_some]; cases aSlice P t M.get v l h m <;> rfl
theorem x_fieldAddr {s : TypeId} {x : Operand} {f : Nat} {mm : Mark K} : XO P G ops (⟨d, .fieldAddr s x f, ty, pos, af, none⟩ :: r) ⟨tm, M⟩ K mm = O1 (ev G tm x) fun v => O1 (aFieldAddr P s f v) fun u => XO P G ops r ⟨putD tm d u, M⟩ K := by
  simp only [XO, x_none, xOp, absOp]
  cases ev G tm x with
  | none => rfl
  | some v => simp only [Option.bind_some, O1_some]; cases aFieldAddr P s f v <;> rfl
theorem x_field {s : TypeId} {x : Operand} {f : Nat} {mm : Mark K} : XO P G ops (⟨d, .field s x f, ty, pos, af, none⟩ :: r) ⟨tm, M⟩ K mm = O1 (ev G tm x) fun v => O1 (aField P s f v) fun u => XO P G ops r ⟨putD tm d u, M⟩ K := by
  simp only [XO, x_none, xOp, absOp]
  cases ev G tm x with
  | none => rfl
  | some v => simp only [Option.bind_some, O1_some]; cases aField P s f v <;> rfl
theorem x_indexAddr {t : TypeId} {x i : Operand} {mm : Mark K} : XO P G ops (⟨d, .indexAddr t x i, ty, pos, af, none⟩ :: r) ⟨tm, M⟩ K mm =
    O1 (ev G tm x) fun v => O1 (ev G tm i) fun u => O1 (aIndexAddr P t v u) fun u' => XO P G ops r ⟨putD tm d u', M⟩ K := by
  simp only [XO, x_none, xOp, absOp]
  cases ev G tm x with
  | none => rfl
  | some v =>
    cases ev G tm i with
    | none => rfl
    | some u => simp only [O1_some]; cases aIndexAddr P t v u <;> rfl
theorem x_index {t : TypeId} {x i : Operand} {mm : Mark K} : XO P G ops (⟨d, .index t x i, ty, pos, af, none⟩ :: r) ⟨tm, M⟩ K mm =
    O1 (ev G tm x) fun v => O1 (ev G tm i) fun u => O1 (aIndex P t v u) fun u' => XO P G ops r ⟨putD tm d u', M⟩ K := by
  simp only [XO, x_none, xOp, absOp]
  cases ev G tm x with
  | none => rfl
  | some v =>
    cases ev G tm i with
    | none => rfl
    | some u => simp only [O1_some]; cases aIndex P t v u <;> rfl
def rangeO (P : Program) (t : TypeId) : Value → Option AObj
  | .string s =>
    match P.underlying t with
    | some .string => some (.iter s 0)
    | _ => none
  | _ => none
theorem x_range {t : TypeId} {x : Operand} {mm : Mark K} : XO P G ops (⟨d, .range t x, ty, pos, af, none⟩ :: r) ⟨tm, M⟩ K mm =
    O1 (ev G tm x) fun v => O1 (rangeO P t v) fun a => XO P G ops r ⟨putD tm d (.pointer (some ⟨M.next, 0, none⟩)), M.alloc a⟩ K := by
  simp only [XO, x_none, xOp, absOp]
  cases ev G tm x with
  | none => rfl
  | some v =>
    simp only [O1_some]
    cases v <;> simp only [rangeO, O1_none]
    cases hu : P.underlying t with
    | none => rfl
    | some u => cases u <;> rfl
theorem x_next {x : Operand} {mm : Mark K} : XO P G ops (⟨d, .next x true, ty, pos, af, none⟩ :: r) ⟨tm, M⟩ K mm = O1 (ev G tm x) fun v => O1 (aNext M.get v) fun e => XO P G ops r ⟨putD tm d e.1, e.2.app M⟩ K := by
  simp only [XO, x_none, xOp, absOp]
  cases ev G tm x with
  | none => rfl
  | some v => simp only [Option.bind_some, O1_some]; cases aNext M.get v <;> rfl
theorem x_extract {x : Operand} {i : Nat} {mm : Mark K} : XO P G ops (⟨d, .extract x i, ty, pos, af, none⟩ :: r) ⟨tm, M⟩ K mm = O1 (ev G tm x) fun v => O1 (aExtract v i) fun u => XO P G ops r ⟨putD tm d u, M⟩ K := by
  simp only [XO, x_none, xOp, absOp]
  cases ev G tm x with
  | none => rfl
  | some v => simp only [Option.bind_some, O1_some]; cases aExtract v i <;> rfl
theorem x_builtin {b : Builtin} {args : Array Operand} {ts : Array TypeId} {mm : Mark K} : XO P G ops (⟨d, .call ⟨.builtin b, args, ts⟩, ty, pos, af, none⟩ :: r) ⟨tm, M⟩ K mm =
    O1 (evL G tm args.toList) fun vs => O1 (aBuiltin P b ts.toList vs M.get M.next) fun e => XO P G ops r ⟨putD tm d e.1, e.2.app M⟩ K := by
  simp only [XO, x_none, xOp, absOp]
  cases evL G tm args.toList with
  | none => rfl
  | some v => simp only [Option.bind_some, O1_some]; cases aBuiltin P b ts.toList v M.get M.next <;> rfl
def FC (P : Program) (G : Nat) (fv : Value) (vs : List Value) (M : Mem) (Q : Value → Mem → Prop) (_ : Mark Q := .mk) : Prop :=
  match fv with
  | .func (.func f) a b => ACallF P G f (a.toList ++ vs ++ b.toList) M Q
  | _ => False
@[congr] theorem CF_congr {f : FuncId} {vs vs' : List Value} {M M' : Mem} {Q : Value → Mem → Prop} {m : Mark Q} (h2 : vs = vs') (h3 : M = M') : CF P G f vs M Q m = CF P G f vs' M' Q m := by rw [h2, h3]
theorem FC_func {f : FuncId} {a b : List Value} {vs : List Value} {Q : Value → Mem → Prop} {m : Mark Q} : FC P G (.func (.func f) a.toArray b.toArray) vs M Q m = CF P G f (a ++ vs ++ b) M Q := by simp [FC, CF]
theorem x_call {x : Operand} {args : Array Operand} {ts : Array TypeId} {mm : Mark K} : XO P G ops (⟨d, .call ⟨.value x, args, ts⟩, ty, pos, af, none⟩ :: r) ⟨tm, M⟩ K mm =
    O1 (ev G tm x) fun fv => O1 (evL G tm args.toList) fun vs => FC P G fv vs M fun v M' => XO P G ops r ⟨putD tm d v, M'⟩ K := by
  simp only [XO, x_none, xOp]
  cases ev G tm x with
  | none => rfl
  | some fv =>
    cases evL G tm args.toList with
    | none =>
      cases fv <;> try rfl
      rename_i f a b
      cases f <;> rfl
    | some vs =>
      simp only [O1_some, FC]
      cases fv <;> try rfl
      rename_i f a b
      cases f <;> rfl
end
end Go.AL
end
/- The library of this session's own, part 18: the rules for values: strings as rows of bytes, numbers, loads and stores. -/
section
namespace Go.AL
open Go

/-- A string of these bytes. -/
def bs (l : List UInt8) : ByteArray := ⟨l.toArray⟩
theorem bs_mk {l : List UInt8} : (⟨l.toArray⟩ : ByteArray) = bs l := rfl
theorem bs_of (s : ByteArray) : s = bs s.data.toList := by cases s; simp [bs]
theorem bs_data {l : List UInt8} : (bs l).data.toList = l := by simp [bs]
theorem bs_size {l : List UInt8} : (bs l).size = l.length := by simp [bs, ByteArray.size]
theorem bs_get {l : List UInt8} {i : Nat} : (bs l)[i]? = l[i]? := by
  by_cases h : i < l.length
  · rw [getElem?_pos (bs l) i (by rw [bs_size]; exact h), getElem?_pos l i h]
    simp [bs, ByteArray.get]
    rfl
  · rw [getElem?_neg (bs l) i (by rw [bs_size]; exact h), getElem?_neg l i h]
theorem bs_append {a b : List UInt8} : bs a ++ bs b = bs (a ++ b) := by
  apply ByteArray.ext
  simp [bs]
theorem bs_extract {l : List UInt8} {i j : Nat} : (bs l).extract i j = bs ((l.take j).drop i) := by
  apply ByteArray.ext
  simp [bs]
  exact List.extract_eq_drop_take'
theorem bs_toList {l : List UInt8} : (bs l).toList = l := by rw [ByteArray.toList_eq]; simp [bs]
theorem bs_inj {a b : List UInt8} : bs a = bs b ↔ a = b := ⟨fun h => by have := congrArg (fun s => s.data.toList) h; simpa [bs] using this, fun h => by rw [h]⟩

-- numbers
theorem wrap64 {n : Int} (h : -9223372036854775808 ≤ n ∧ n < 9223372036854775808) : IntKind.i64.wrap n = n := by
  simp only [IntKind.wrap, IntKind.bits, IntKind.signed, Bool.true_and]
  by_cases h1 : n % (2 ^ 64 : Int) ≥ (2 ^ (64 - 1) : Int)
  · simp only [h1, decide_true, if_true]; omega
  · simp only [h1, decide_false, Bool.false_eq_true, if_false]; omega
theorem wrap32 {n : Int} (h : -2147483648 ≤ n ∧ n < 2147483648) : IntKind.i32.wrap n = n := by
  simp only [IntKind.wrap, IntKind.bits, IntKind.signed, Bool.true_and]
  by_cases h1 : n % (2 ^ 32 : Int) ≥ (2 ^ (32 - 1) : Int)
  · simp only [h1, decide_true, if_true]; omega
  · simp only [h1, decide_false, Bool.false_eq_true, if_false]; omega
theorem wrapU8 {n : Int} (h : 0 ≤ n ∧ n < 256) : IntKind.u8.wrap n = n := by
  simp only [IntKind.wrap, IntKind.bits, IntKind.signed, Bool.false_and, Bool.false_eq_true, if_false]
  omega
theorem wrapU32 {n : Int} (h : 0 ≤ n ∧ n < 4294967296) : IntKind.u32.wrap n = n := by
  simp only [IntKind.wrap, IntKind.bits, IntKind.signed, Bool.false_and, Bool.false_eq_true, if_false]
  omega
theorem wrapU64 {n : Int} (h : 0 ≤ n ∧ n < 18446744073709551616) : IntKind.u64.wrap n = n := by
  simp only [IntKind.wrap, IntKind.bits, IntKind.signed, Bool.false_and, Bool.false_eq_true, if_false]
  omega

section
variable {P : Program} {t : TypeId} {c : Bool} {k : IntKind} {a b : Int} {x y : List UInt8}
theorem bin_add : binV P .add t c (.int k a) (.int k b) = some (.int k (k.wrap (a + b))) := by simp [binV, aBin, binOp, Op.intArith, pureF, pure, flat1]
theorem bin_sub : binV P .sub t c (.int k a) (.int k b) = some (.int k (k.wrap (a - b))) := by simp [binV, aBin, binOp, Op.intArith, pureF, pure, flat1]
theorem bin_mul : binV P .mul t c (.int k a) (.int k b) = some (.int k (k.wrap (a * b))) := by simp [binV, aBin, binOp, Op.intArith, pureF, pure, flat1]
theorem bin_lss : binV P .lss t c (.int k a) (.int k b) = some (.bool (decide (a < b))) := by simp [binV, aBin, binOp, Op.intCmp, pureF, pure, flat1]
theorem bin_leq : binV P .leq t c (.int k a) (.int k b) = some (.bool (decide (a ≤ b))) := by simp [binV, aBin, binOp, Op.intCmp, pureF, pure, flat1]
theorem bin_gtr : binV P .gtr t c (.int k a) (.int k b) = some (.bool (decide (b < a))) := by simp [binV, aBin, binOp, Op.intCmp, pureF, pure, flat1]
theorem bin_geq : binV P .geq t c (.int k a) (.int k b) = some (.bool (decide (b ≤ a))) := by simp [binV, aBin, binOp, Op.intCmp, pureF, pure, flat1]
theorem bin_eql : binV P .eql t c (.int k a) (.int k b) = some (.bool (decide (a = b))) := by
  simp [binV, aBin, binOp, Op.intCmp, pureF, pure, flat1]
  by_cases h : a = b <;> simp [h]
theorem bin_neq : binV P .neq t c (.int k a) (.int k b) = some (.bool (decide (a ≠ b))) := by
  simp [binV, aBin, binOp, Op.intCmp, pureF, pure, flat1]
  by_cases h : a = b <;> simp [h]
theorem bin_seql : binV P .eql t c (.string (bs x)) (.string (bs y)) = some (.bool (decide (x = y))) := by
  simp [binV, aBin, binOp, Op.stringOp, pureF, pure, flat1, bs_toList]
  by_cases h : x = y <;> simp [h]
theorem bin_sneq : binV P .neq t c (.string (bs x)) (.string (bs y)) = some (.bool (decide (x ≠ y))) := by
  simp [binV, aBin, binOp, Op.stringOp, pureF, pure, flat1, bs_toList]
  by_cases h : x = y <;> simp [h]
theorem bin_sadd (h : x.length + y.length ≤ 9223372036854775807) : binV P .add t c (.string (bs x)) (.string (bs y)) = some (.string (bs (x ++ y))) := by
  have : ¬ (((bs x).size + (bs y).size : Nat) : Int) > IntKind.i64.max := by
    simp only [bs_size, show IntKind.i64.max = 9223372036854775807 from rfl]
    omega
  simp only [binV, aBin, binOp, Op.stringOp]
  rw [if_neg this]
  simp [pureF, pure, flat1, bs_append]
/-- '==' of what is no number and no string: by the type's kind. -/
def eqQ (P : Program) (t : TypeId) (k : Nat) : Bool := kindQ P t == k
theorem bin_beql {a b : Bool} : binV P .eql t c (.bool a) (.bool b) = if kindQ P t = 1 then some (.bool (a == b)) else none := by
  simp only [binV, aCmp, aEq]; split <;> rename_i h <;> by_cases h1 : kindQ P t = 1 <;> simp_all
theorem bin_bneq {a b : Bool} : binV P .neq t c (.bool a) (.bool b) = if kindQ P t = 1 then some (.bool (a != b)) else none := by
  simp only [binV, aCmp, aEq]; split <;> rename_i h <;> by_cases h1 : kindQ P t = 1 <;> simp_all [bne]
theorem bin_pnil {a : Addr} : binV P .eql t c (.pointer (some a)) (.pointer none) = if kindQ P t = 2 then some (.bool false) else none := by
  simp only [binV, aCmp, aEq]; split <;> rename_i h <;> by_cases h1 : kindQ P t = 2 <;> simp_all
theorem bin_pnil' {a : Addr} : binV P .neq t c (.pointer (some a)) (.pointer none) = if kindQ P t = 2 then some (.bool true) else none := by
  simp only [binV, aCmp, aEq]; split <;> rename_i h <;> by_cases h1 : kindQ P t = 2 <;> simp_all
theorem bin_nilnil : binV P .eql t c (.pointer none) (.pointer none) = if kindQ P t = 2 then some (.bool true) else none := by
  simp only [binV, aCmp, aEq]; split <;> rename_i h <;> by_cases h1 : kindQ P t = 2 <;> simp_all
theorem bin_nilnil' : binV P .neq t c (.pointer none) (.pointer none) = if kindQ P t = 2 then some (.bool false) else none := by
  simp only [binV, aCmp, aEq]; split <;> rename_i h <;> by_cases h1 : kindQ P t = 2 <;> simp_all
theorem bin_agg {xs ys : List Value} : binV P .eql t c (.agg xs.toArray) (.agg ys.toArray) = (plainQ P t).bind fun ks => (eqL ks xs ys).map fun b => .bool b := by
  simp only [binV, aCmp, aEqS]
  cases plainQ P t with
  | none => rfl
  | some ks => simp only [Option.bind_some]; cases eqL ks xs ys <;> rfl
theorem bin_agg' {xs ys : List Value} : binV P .neq t c (.agg xs.toArray) (.agg ys.toArray) = (plainQ P t).bind fun ks => (eqL ks xs ys).map fun b => .bool !b := by
  simp only [binV, aCmp, aEqS]
  cases plainQ P t with
  | none => rfl
  | some ks => simp only [Option.bind_some]; cases eqL ks xs ys <;> rfl
theorem un_not {b : Bool} : aUn .not (.bool b) = some (.bool !b) := rfl
theorem un_neg {k : IntKind} {n : Int} : aUn .neg (.int k n) = some (.int k (k.wrap (0 - n))) := rfl

def ifStr {α : Type} (o : Option TypeDesc) (x : Option α) : Option α :=
  match o with
  | some .string => x
  | _ => none
theorem ifStr_string {α : Type} {x : Option α} : ifStr (some .string) x = x := rfl
def ifSl {α : Type} (o : Option TypeDesc) (x : Option α) : Option α :=
  match o with
  | some (.slice _) => x
  | _ => none
theorem ifSl_slice {α : Type} {e : TypeId} {x : Option α} : ifSl (some (.slice e)) x = x := rfl
theorem len_s : aLen P t (.string (bs x)) = ifStr (P.underlying t) (some (.int .i64 x.length)) := by
  simp only [aLen, bs_size, ifStr]
  cases P.underlying t with
  | none => rfl
  | some d => cases d <;> rfl
theorem len_l {p : Option Addr} {n m : Nat} : aLen P t (.slice p n m) = ifSl (P.underlying t) (some (.int .i64 n)) := rfl
theorem b_len {get : Nat → Option AObj} {kk : Nat} {v : Value} : aBuiltin P .len [t] [v] get kk = (aLen P t v).map fun r => (r, .none) := rfl
theorem b_append {t0 t1 : TypeId} {get : Nat → Option AObj} {kk : Nat} {v u : Value} : aBuiltin P .append [t0, t1] [v, u] get kk = aAppend P t0 t1 get kk v u := rfl
theorem b_copy {t0 t1 : TypeId} {get : Nat → Option AObj} {kk : Nat} {v u : Value} : aBuiltin P .copy [t0, t1] [v, u] get kk = aCopy P t0 get v u := rfl
theorem b_min {ts : List TypeId} {get : Nat → Option AObj} {kk : Nat} {a b : Int} : aBuiltin P .min ts [.int k a, .int k b] get kk = some (.int k (min a b), .none) := by
  have : aBuiltin P .min ts [.int k a, .int k b] get kk = (aTwo Builtin.min2 (.int k a) (.int k b)).map fun v => (v, .none) := by unfold aBuiltin; rfl
  rw [this]
  simp only [aTwo, Builtin.min2, pureF, pure, flat1, if_true, Option.map_some]
  congr 3
  split <;> omega
theorem conv_int {src dst : TypeId} {get : Nat → Option AObj} {n : Int} : aConvert P src dst get (.int k n) = match P.underlying src, P.underlying dst with
    | some _, some (.int k) => some (.int k (k.wrap n))
    | some _, some .string => some (.string (Utf8.encode n))
    | _, _ => none := rfl
theorem conv_string {src dst : TypeId} {get : Nat → Option AObj} {s : ByteArray} : aConvert P src dst get (.string s) = match P.underlying src, P.underlying dst with
    | some _, some .string => some (.string s)
    | _, _ => none := rfl
theorem ext_tuple {vs : List Value} {i : Nat} : aExtract (.tuple vs.toArray) i = vs[i]? := rfl
theorem range_s : rangeO P t (.string (bs x)) = ifStr (P.underlying t) (some (.iter (bs x) 0)) := rfl

-- addresses
theorem fa_ptr {s : TypeId} {f : Nat} {k off : Nat} : aFieldAddr P s f (.pointer (some ⟨k, off, none⟩)) = (fieldQ P s f).bind fun q => if q.2.2 = 0 then none else some (.pointer (some ⟨k, off + q.1, none⟩)) := by
  simp only [aFieldAddr]
  cases fieldQ P s f <;> rfl
theorem f_agg {s : TypeId} {f : Nat} {cs : List Value} : aField P s f (.agg cs.toArray) = (fieldQ P s f).bind fun q => aPart P q.2.1 cs q.1 := by
  simp only [aField]
  cases fieldQ P s f <;> rfl
/-- A part of a row of cells. -/
def partL (sh : Option Shape) (cs : List Value) (off : Nat) : Option Value :=
  match sh with
  | some (.agg n) => if off + n ≤ cs.length then some (.agg ((cs.drop off).take n).toArray) else none
  | some .cell => cs[off]?
  | none => none
theorem part_eq {cs : List Value} {off : Nat} : aPart P t cs off = partL (shapeQ P t) cs off := rfl
theorem partL_cell {cs : List Value} {off : Nat} : partL (some .cell) cs off = cs[off]? := rfl
theorem partL_agg {cs : List Value} {off n : Nat} : partL (some (.agg n)) cs off = if off + n ≤ cs.length then some (.agg ((cs.drop off).take n).toArray) else none := rfl
def cellsO : Option AObj → Option (List Value)
  | some (.cells cs _ _ _) => some cs
  | _ => none
theorem cellsO_some {cs : List Value} {e fz : Nat} {ro : Bool} : cellsO (some (.cells cs e fz ro)) = some cs := rfl
theorem load_ptr {get : Nat → Option AObj} {k off : Nat} : aLoad P t get (.pointer (some ⟨k, off, none⟩)) = (cellsO (get k)).bind fun cs => partL (shapeQ P t) cs off := by
  simp only [aLoad]
  cases get k with
  | none => rfl
  | some o => cases o <;> rfl
def storeO (n : Option Nat) (o : Option AObj) (k off : Nat) (l : List Value) : Option (Nat × AObj) :=
  if n = some l.length then
    match o with
    | some (.cells cs e fz false) => if fz ≤ off ∧ off + l.length ≤ cs.length ∧ l.all (·.oneCell') = true then some (k, .cells (wr cs off l) e fz false) else none
    | _ => none
  else none
theorem store_ptr {get : Nat → Option AObj} {k off : Nat} {v : Value} : aStore P t get (.pointer (some ⟨k, off, none⟩)) v = storeO (sizeQ P t) (get k) k off (cl v) := by rw [aStore_eq]; rfl
theorem storeO_cells {n k off : Nat} {cs l : List Value} {e fz : Nat} : storeO (some n) (some (.cells cs e fz false)) k off l =
    if n = l.length then if fz ≤ off ∧ off + l.length ≤ cs.length ∧ l.all (·.oneCell') = true then some (k, .cells (wr cs off l) e fz false) else none else none := by
  simp only [storeO, Option.some.injEq]
theorem ia_slice {k off n m : Nat} {i : Int} {q : IntKind} : aIndexAddr P t (.slice (some ⟨k, off, none⟩) n m) (.int q i) = (elemQ P t).bind fun z => if 0 ≤ i ∧ i < n then some (.pointer (some ⟨k, off + i.toNat * z.2.1, none⟩)) else none := by
  simp only [aIndexAddr]
  cases elemQ P t <;> rfl
theorem ia_arr {k off : Nat} {i : Int} {q : IntKind} : aIndexAddr P t (.pointer (some ⟨k, off, none⟩)) (.int q i) = (arrQ P t).bind fun z => if 0 ≤ i ∧ i < z.1 then some (.pointer (some ⟨k, off + i.toNat * z.2.2, none⟩)) else none := by
  simp only [aIndexAddr]
  cases arrQ P t <;> rfl
theorem ix_string {i : Int} {q : IntKind} : aIndex P t (.string (bs x)) (.int q i) = ifStr (P.underlying t) (if 0 ≤ i then (x[i.toNat]?).map fun b => .int .u8 b.toNat else none) := by
  simp only [aIndex, bs_get, ifStr]
  cases P.underlying t with
  | none => rfl
  | some d => cases d <;> rfl
theorem ix_agg {cs : List Value} {i : Int} {q : IntKind} : aIndex P t (.agg cs.toArray) (.int q i) = (arrQ P t).bind fun z => if 0 ≤ i ∧ i < z.1 then partL (shapeQ P z.2.1) cs (i.toNat * z.2.2) else none := by
  simp only [aIndex]
  cases arrQ P t <;> rfl
-- cuts of strings
theorem slice_s {get : Nat → Option AObj} {lo hi mx : Option Value} {s : ByteArray} : aSlice P t get (.string s) lo hi mx = ifStr (P.underlying t) (if mx.isSome then none else (aBounds s.size s.size lo hi none).map fun q => .string (s.extract q.1 q.2.1)) := by
  simp only [aSlice, ifStr]
  cases P.underlying t with
  | none => rfl
  | some d => cases d <;> rfl
theorem sl_lo {get : Nat → Option AObj} {q : IntKind} {i : Int} : aSlice P t get (.string (bs x)) (some (.int q i)) none none = ifStr (P.underlying t) (if 0 ≤ i ∧ i ≤ x.length then some (.string (bs (x.drop i.toNat))) else none) := by
  rw [slice_s]
  congr 1
  simp only [aBounds, aBound, bs_size, Option.isSome_none, Bool.false_and, Bool.false_eq_true, if_false]
  by_cases h : 0 ≤ i ∧ i ≤ x.length
  · simp [h, bs_extract]
  · simp [h]
theorem sl_hi {get : Nat → Option AObj} {q : IntKind} {i : Int} : aSlice P t get (.string (bs x)) none (some (.int q i)) none = ifStr (P.underlying t) (if 0 ≤ i ∧ i ≤ x.length then some (.string (bs (x.take i.toNat))) else none) := by
  rw [slice_s]
  congr 1
  simp only [aBounds, aBound, bs_size, Option.isSome_none, Bool.false_and, Bool.false_eq_true, if_false]
  by_cases h : 0 ≤ i ∧ i ≤ x.length
  · have : i.toNat ≤ x.length := by omega
    simp [h, bs_extract, this]
  · simp [h]
theorem sl_both {get : Nat → Option AObj} {q q' : IntKind} {i j : Int} : aSlice P t get (.string (bs x)) (some (.int q i)) (some (.int q' j)) none =
    ifStr (P.underlying t) (if 0 ≤ i ∧ i ≤ j ∧ j ≤ x.length then some (.string (bs ((x.take j.toNat).drop i.toNat))) else none) := by
  rw [slice_s]
  congr 1
  simp only [aBounds, aBound, bs_size, Option.isSome_none, Bool.false_and, Bool.false_eq_true, if_false]
  by_cases h : 0 ≤ i ∧ i ≤ j ∧ j ≤ x.length
  · have h1 : 0 ≤ j ∧ j ≤ (x.length : Int) := by omega
    have h2 : 0 ≤ i ∧ i ≤ ((j.toNat : Nat) : Int) := by omega
    have h3 : j.toNat ≤ x.length := by omega
    simp only [h1, h2, h3, h, and_self, if_true, Option.map_some, bs_extract]
  · by_cases h1 : 0 ≤ j ∧ j ≤ (x.length : Int)
    · have h2 : ¬ (0 ≤ i ∧ i ≤ ((j.toNat : Nat) : Int)) := by omega
      rw [if_neg h]
      simp only [h1, and_self, if_true]
      rw [if_neg h2]
      rfl
    · rw [if_neg h]
      simp only [h1, if_false]
      rfl
end

-- cells of values
theorem cl_agg {l : List Value} : cl (.agg l.toArray) = l := by simp [cl]
theorem cl_int {k : IntKind} {n : Int} : cl (.int k n) = [.int k n] := rfl
theorem cl_bool {b : Bool} : cl (.bool b) = [.bool b] := rfl
theorem cl_string {s : ByteArray} : cl (.string s) = [.string s] := rfl
theorem cl_pointer {a : Option Addr} : cl (.pointer a) = [.pointer a] := rfl
theorem cl_slice {a : Option Addr} {n m : Nat} : cl (.slice a n m) = [.slice a n m] := rfl
theorem cl_func {f : Fn} {a b : Array Value} : cl (.func f a b) = [.func f a b] := rfl
theorem cl_nilFunc : cl .nilFunc = [.nilFunc] := rfl
theorem cl_nilIface : cl .nilIface = [.nilIface] := rfl
theorem cl_iface {t : TypeId} {v : Value} : cl (.iface t v) = [.iface t v] := rfl
theorem wr_nil {cs : List Value} : wr cs 0 [] = cs := by cases cs <;> rfl
theorem wr_cons {c v : Value} {cs l : List Value} : wr (c :: cs) 0 (v :: l) = v :: wr cs 0 l := rfl
theorem wr_succ {c : Value} {cs l : List Value} {n : Nat} : wr (c :: cs) (n + 1) l = c :: wr cs n l := rfl
theorem one_int {k : IntKind} {n : Int} : (Value.int k n).oneCell' = true := rfl
theorem one_bool {b : Bool} : (Value.bool b).oneCell' = true := rfl
theorem one_string {s : ByteArray} : (Value.string s).oneCell' = true := rfl
theorem one_pointer {a : Option Addr} : (Value.pointer a).oneCell' = true := rfl
theorem one_slice {a : Option Addr} {n m : Nat} : (Value.slice a n m).oneCell' = true := rfl
theorem one_func {f : Fn} {a b : Array Value} : (Value.func f a b).oneCell' = true := rfl
theorem one_nilFunc : Value.nilFunc.oneCell' = true := rfl
theorem one_nilIface : Value.nilIface.oneCell' = true := rfl
theorem one_iface {t : TypeId} {v : Value} : (Value.iface t v).oneCell' = true := rfl
theorem all_nil {f : Value → Bool} : ([] : List Value).all f = true := rfl
theorem all_cons {f : Value → Bool} {v : Value} {l : List Value} : (v :: l).all f = (f v && l.all f) := rfl
theorem aNew_eq {e : TypeId} {l : List Value} : aNew e l = if l.all (·.oneCell') = true then some (.cells l e 0 false) else none := rfl
theorem fill_nil {ps : List (Nat × Nat)} {cs : List Value} : fillL ps cs [] = some cs := rfl
theorem fill_cons {ps : List (Nat × Nat)} {cs : List Value} {i : Nat} {v : Value} {r : List (Nat × Value)} :
    fillL ps cs ((i, v) :: r) = (ps[i]?).bind fun q => if q.2 = (cl v).length ∧ q.1 + q.2 ≤ cs.length then fillL ps (wr cs q.1 (cl v)) r else none := by
  simp only [fillL]
  cases ps[i]? with
  | none => rfl
  | some q =>
    obtain ⟨off, size⟩ := q
    simp only [Option.bind_some, cells_size, cells_cl]
    by_cases h : (cl v).length = size ∧ off + size ≤ cs.length
    · have h' : size = (cl v).length ∧ off + size ≤ cs.length := ⟨h.1.symm, h.2⟩
      rw [if_pos h, if_pos h', splice_wr]
      rw [h.1]; exact h.2
    · have h' : ¬ (size = (cl v).length ∧ off + size ≤ cs.length) := fun e => h ⟨e.1.symm, e.2⟩
      rw [if_neg h, if_neg h']
theorem build_eq {P : Program} {t : TypeId} {ps : List (Nat × Value)} : aBuild P t ps = (placesQ P t).bind fun q => (zeroF P t).bind fun z => (fillL q z ps).map fun l => .agg l.toArray := by
  simp only [aBuild]
  cases placesQ P t with
  | none => rfl
  | some q => cases zeroF P t <;> rfl

-- the memory
theorem mem_eta {M : Mem} : (⟨M.get, M.next⟩ : Mem) = M := rfl
theorem next_alloc {M : Mem} {a : AObj} : (M.alloc a).next = M.next + 1 := rfl
theorem next_set {M : Mem} {k : Nat} {a : AObj} : (M.set k a).next = M.next := rfl
theorem next_move {M : Mem} {k : Nat} {a : AObj} : (M.move k a).next = M.next + 1 := rfl
theorem get_alloc {M : Mem} {a : AObj} {j : Nat} (h : j = M.next) : (M.alloc a).get j = some a := by rw [h]; exact upd_self _ _ _
theorem get_alloc' {M : Mem} {a : AObj} {j : Nat} (h : j ≠ M.next) : (M.alloc a).get j = M.get j := upd_ne _ _ h
theorem get_set {M : Mem} {k : Nat} {a : AObj} : (M.set k a).get k = some a := upd_self _ _ _
theorem get_set' {M : Mem} {k j : Nat} {a : AObj} (h : j ≠ k) : (M.set k a).get j = M.get j := upd_ne _ _ h
theorem get_move {M : Mem} {k j : Nat} {a : AObj} (h : j = M.next) : (M.move k a).get j = some a := by rw [h]; exact upd_self _ _ _
theorem get_move' {M : Mem} {k j : Nat} {a : AObj} (h : j ≠ M.next) (h' : j ≠ k) : (M.move k a).get j = M.get j := by
  simp only [Mem.move]
  rw [upd_ne _ _ h, upd_ne _ _ h']
theorem set_set {M : Mem} {k : Nat} {a b : AObj} : (M.set k a).set k b = M.set k b := by simp only [Mem.set, upd_upd]
theorem set_alloc {M : Mem} {k : Nat} {a b : AObj} (h : k = M.next) : (M.alloc a).set k b = M.alloc b := by simp only [Mem.set, Mem.alloc, h, upd_upd]
theorem app_none {M : Mem} : Eff.none.app M = M := rfl
theorem app_new {M : Mem} {a : AObj} : (Eff.new a).app M = M.alloc a := rfl
theorem app_set {M : Mem} {k : Nat} {a : AObj} : (Eff.set k a).app M = M.set k a := rfl
theorem app_move {M : Mem} {k : Nat} {a : AObj} : (Eff.move k a).app M = M.move k a := rfl
theorem next_iter {get : Nat → Option AObj} {k : Nat} : aNext get (.pointer (some ⟨k, 0, none⟩)) = match get k with
    | some (.iter s pos) => if pos < s.size then some (.tuple #[.bool true, .int .i64 pos, .int .i32 (Utf8.decode s pos).1], .set k (.iter s (pos + (Utf8.decode s pos).2))) else some (.tuple #[.bool false], .none)
    | _ => none := rfl

-- what a function answers
theorem res_nil {P : Program} {tm : List (Nat × Value)} {M : Mem} : resL P tm M [] = some [] := rfl
theorem res_tmp {P : Program} {tm : List (Nat × Value)} {M : Mem} {t : Tmp} {r : List ResultVar} : resL P tm M (.tmp t :: r) = (look tm t).bind fun v => (resL P tm M r).map fun l => v :: l := by
  simp only [resL]
  cases look tm t <;> cases resL P tm M r <;> rfl
theorem res_cell {P : Program} {tm : List (Nat × Value)} {M : Mem} {a : Tmp} {t : TypeId} {r : List ResultVar} : resL P tm M (.cell a t :: r) = (look tm a).bind fun p => (aLoad P t M.get p).bind fun v => (resL P tm M r).map fun l => v :: l := by
  simp only [resL]
  cases look tm a with
  | none => rfl
  | some p => simp only [Option.bind_some]; cases aLoad P t M.get p <;> cases resL P tm M r <;> rfl
/-- The end of a function. -/
def EndQ (P : Program) (rs : List ResultVar) (M0 : Mem) (Q : Value → Mem → Prop) (e : Exit) (st : St) : Prop :=
  match e with
  | .normal | .ret => O1 (resL P st.tm st.mem rs) fun vs => ∃ M2, Fin M0 st.mem (res1 vs) M2 ∧ Q (res1 vs) M2
  | _ => False
@[congr] theorem EndQ_congr {P : Program} {rs : List ResultVar} {M0 : Mem} {Q : Value → Mem → Prop} {e e' : Exit} {st st' : St} (h : e = e') (h' : st = st') : EndQ P rs M0 Q e st = EndQ P rs M0 Q e' st' := by rw [h, h']
theorem EndQ_ret {P : Program} {rs : List ResultVar} {M0 : Mem} {Q : Value → Mem → Prop} {tm : List (Nat × Value)} {M : Mem} : EndQ P rs M0 Q .ret ⟨tm, M⟩ = O1 (resL P tm M rs) fun vs => ∃ M2, Fin M0 M (res1 vs) M2 ∧ Q (res1 vs) M2 := rfl
theorem EndQ_normal {P : Program} {rs : List ResultVar} {M0 : Mem} {Q : Value → Mem → Prop} {tm : List (Nat × Value)} {M : Mem} : EndQ P rs M0 Q .normal ⟨tm, M⟩ = O1 (resL P tm M rs) fun vs => ∃ M2, Fin M0 M (res1 vs) M2 ∧ Q (res1 vs) M2 := rfl
theorem res1_one {v : Value} : res1 [v] = v := rfl
theorem res1_nil : res1 [] = .tuple #[] := rfl
theorem res1_two {v u : Value} {l : List Value} : res1 (v :: u :: l) = .tuple (v :: u :: l).toArray := rfl

/-- Nothing lies where the next block will. -/
def WF (M : Mem) : Prop := ∀ k, M.next ≤ k → M.get k = none
theorem WF.lt {M : Mem} (h : WF M) {k : Nat} {o : AObj} (hk : M.get k = some o) : k < M.next := by
  rcases Nat.lt_or_ge k M.next with h1 | h1
  · exact h1
  · rw [h k h1] at hk; cases hk
/-- All that was there is as it was. -/
def Keep (M M' : Mem) : Prop := ∀ k o, M.get k = some o → M'.get k = some o
theorem Keep.refl (M : Mem) : Keep M M := fun _ _ h => h
theorem Keep.trans {M M' M'' : Mem} (h : Keep M M') (h' : Keep M' M'') : Keep M M'' := fun k o hk => h' k o (h k o hk)
theorem Keep.alloc {M0 M : Mem} (h : Keep M0 M) (hw : WF M0) (hn : M0.next ≤ M.next) (a : AObj) : Keep M0 (M.alloc a) := fun k o hk => by
  rw [get_alloc' (fun e => by have := hw.lt hk; omega)]; exact h k o hk
theorem Keep.set {M0 M : Mem} (h : Keep M0 M) (hw : WF M0) {k : Nat} (hk : M0.next ≤ k) (a : AObj) : Keep M0 (M.set k a) := fun j o hj => by
  rw [get_set' (fun e => by have := hw.lt hj; omega)]; exact h j o hj
theorem Keep.move {M0 M : Mem} (h : Keep M0 M) (hw : WF M0) (hn : M0.next ≤ M.next) {k : Nat} (hk : M0.next ≤ k) (a : AObj) : Keep M0 (M.move k a) := fun j o hj => by
  have := hw.lt hj
  rw [get_move' (by omega) (by omega)]; exact h j o hj

theorem xOp_mono {P : Program} {G : Nat} {o : Oper} {st : St} {K K' : St → Prop} (hk : ∀ s, K s → K' s) (h : xOp P G o st K) : xOp P G o st K' := by
  unfold xOp at h ⊢
  split at h
  · split at h
    · exact ACallF.mono h fun v M' => hk _
    · exact h
  · split at h
    · exact hk _ h
    · exact h
theorem xOps_mono {P : Program} {G : Nat} {ops : List Oper} {K K' : St → Prop} (hk : ∀ s, K s → K' s) : ∀ {r : List Oper} {st : St}, xOps P G ops r st K → xOps P G ops r st K'
  | [], _, h => hk _ h
  | o :: r, st, h => by
    simp only [xOps] at h ⊢
    split at h
    · exact xOp_mono (fun s => xOps_mono hk) h
    · split at h
      · exact xOp_mono (fun s => xOps_mono hk) h
      · exact xOps_mono hk h
      · exact h
theorem xCode_mono {P : Program} {G N : Nat} : ∀ {c : Code} {st : St} {Q Q' : Exit → St → Prop}, (∀ e s, Q e s → Q' e s) → xCode P G N c st Q → xCode P G N c st Q' := by
  intro c
  induction c with
  | skip => intro st Q Q' hq h; exact hq _ _ h
  | region id ops draw =>
    intro st Q Q' hq h
    cases draw with
    | false => exact xOps_mono (fun s => hq _ _) h
    | true => exact ACode.mono h fun e s he => by cases e <;> first | exact hq _ _ he | exact he
  | seq a b iha ihb =>
    intro st Q Q' hq h
    refine iha ?_ h
    intro e s he
    cases e <;> first | exact ihb hq he | exact hq _ _ he
  | cond c a b iha ihb =>
    intro st Q Q' hq h
    simp only [xCode] at h ⊢
    split at h
    · exact ⟨fun e => iha hq (h.1 e), fun e => ihb hq (h.2 e)⟩
    · exact h
  | block id b ih =>
    intro st Q Q' hq h
    refine ih ?_ h
    intro e s he
    cases e with
    | exit id' =>
      simp only [blockQ] at he ⊢
      split at he
      · rename_i e; rw [if_pos e]; exact hq _ _ he
      · rename_i e; rw [if_neg e]; exact hq _ _ he
    | _ => exact hq _ _ he
  | loop b ih => intro st Q Q' hq h; exact ALoop.mono h hq
  | scope b ih => intro st Q Q' hq h; exact AScope.mono h hq
  | exit id => intro st Q Q' hq h; exact hq _ _ h
  | label l => intro st Q Q' hq h; exact hq _ _ h
  | goto l => intro st Q Q' hq h; exact hq _ _ h
  | ret => intro st Q Q' hq h; exact hq _ _ h
  | rangeFunc f ps x y _ _ => intro st Q Q' hq h; exact h.elim
  | refuse why => intro st Q Q' hq h; exact h.elim
theorem ACalls.walk {P : Program} {G N : Nat} {f : FuncId} {fn : Func} {c : Code} {rs : List ResultVar} {args : List Value} {M : Mem} {Q : Value → Mem → Prop} (hf : P.funcs[f]? = some fn) (hb : fn.body = some c) (hrs : fn.results.toList = rs)
    (hN : args.length + (fn.ntmps - args.length) = N) (hok : okCode N c = true) (h : WF M → xCode P G N c ⟨initL args 0, M⟩ (EndQ P rs M Q)) : ACalls P G f args M Q := by
  intro ρ w cargs h1 h2
  have hwf : WF M := fun k hk => by
    cases hg : M.get k with
    | none => rfl
    | some o => exact absurd (h1.live k o hg) (by omega)
  have hret : ∀ e st, EndQ P rs M Q e st → retQ P fn M Q e st := by
    intro e st he
    have key : (O1 (resL P st.tm st.mem rs) fun vs => ∃ M2, Fin M st.mem (res1 vs) M2 ∧ Q (res1 vs) M2) → ∃ v M2, resV P fn st = some v ∧ Fin M st.mem v M2 ∧ Q v M2 := by
      intro ho
      cases hr : resL P st.tm st.mem rs with
      | none => rw [hr] at ho; exact ho.elim
      | some vs =>
        rw [hr] at ho
        obtain ⟨M2, h3, h4⟩ := ho
        exact ⟨res1 vs, M2, by simp only [resV, hrs, hr, Option.map_some], h3, h4⟩
    cases e <;> first | exact key he | exact he.elim
  refine ACalls.body hf hb hN hok ?_ ρ w cargs h1 h2
  exact xCode_mono (fun e st => hret e st) (h hwf)
attribute [go_sem ↓] x_skip x_region x_draw x_seq x_block x_loop x_scope x_exit x_ret x_goto x_label x_cond thenQ_normal thenQ_ret thenQ_exit thenQ_goto blockQ_normal blockQ_ret
attribute [go_sem ↓] blockQ_exit blockQ_goto EndQ_ret EndQ_normal O1_some O1_none
attribute [go_sem] nf_mk W1_bool look_cons putD_some putD_none putL_nil putL_cons initL ev_tmp ev_int ev_bool ev_string ev_nil ev_nilSlice ev_nilFunc ev_nilIface ev_func ev_global
attribute [go_sem] evL_nil evL_cons evP_nil evP_cons evO_none evO_some x_nil G1_undef G1_true G1_false undef_eq x_guard x_move x_assign x_pick x_alloc x_box x_build x_buildSlice x_load x_store x_nilCheck nilO_ptr
attribute [go_sem] nilO_func x_binOp x_unOp x_convert x_makeInterface x_makeFunc x_makeSlice x_slice x_fieldAddr x_field x_indexAddr x_index x_range x_next x_extract x_builtin
attribute [go_sem] x_call FC_func O1_map O1_bind O1_if O1_ifn Option.map_some Option.map_none Option.bind_some Option.bind_none Br_true Br_false bin_add bin_sub bin_mul bin_lss
attribute [go_sem] bin_leq bin_gtr bin_geq bin_eql bin_neq bin_seql bin_sneq bin_sadd bin_beql bin_bneq bin_pnil bin_pnil' bin_nilnil bin_nilnil' bin_agg bin_agg' un_not un_neg
attribute [go_sem] wrap64 wrap32 wrapU8 ifStr_string ifSl_slice len_s len_l b_len b_append b_copy b_min conv_int conv_string ext_tuple range_s fa_ptr f_agg part_eq partL_cell
attribute [go_sem] partL_agg cellsO_some load_ptr store_ptr storeO_cells ia_slice ia_arr ix_string ix_agg sl_lo sl_hi sl_both cl_agg cl_int cl_bool cl_string cl_pointer cl_slice
attribute [go_sem] cl_func cl_nilFunc cl_nilIface cl_iface wr_nil wr_cons wr_succ one_int one_bool one_string one_pointer one_slice one_func one_nilFunc one_nilIface one_iface
attribute [go_sem] all_nil all_cons aNew_eq fill_nil fill_cons build_eq next_alloc next_set next_move get_set set_set
attribute [go_sem] app_none app_new app_set app_move res_nil res_tmp res_cell res1_one res1_nil res1_two bs_mk if_true if_false Bool.true_and Bool.and_true and_true
attribute [go_sem] true_and and_self Nat.zero_add Nat.add_zero List.getElem?_cons_zero List.getElem?_cons_succ List.length_cons List.length_nil List.drop_zero List.drop_succ_cons
attribute [go_sem] List.take_succ_cons List.take_zero List.nil_append List.append_nil List.cons_append Bool.not_true Bool.not_false
end Go.AL
end
/- The library of this session's own, part 19: characters of a row of bytes; rules for loops and jumps. -/
section
namespace Go.AL
open Go

-- characters
def atB (l : List UInt8) (k : Nat) : Nat := (l.getD k 0).toNat
def contB (l : List UInt8) (k : Nat) : Bool := decide (k < l.length) && atB l k / 64 == 2
/-- The first character, and how many bytes it has. -/
def dec (l : List UInt8) : Nat × Nat :=
  let b0 := atB l 0
  if b0 < 0x80 then (b0, 1)
  else if b0 / 32 == 6 && contB l 1 then
    let c := (b0 % 32) * 64 + atB l 1 % 64
    if c ≥ 0x80 then (c, 2) else (Utf8.runeError, 1)
  else if b0 / 16 == 14 && contB l 1 && contB l 2 then
    let c := (b0 % 16) * 4096 + (atB l 1 % 64) * 64 + atB l 2 % 64
    if c ≥ 0x800 && Utf8.valid c then (c, 3) else (Utf8.runeError, 1)
  else if b0 / 8 == 30 && contB l 1 && contB l 2 && contB l 3 then
    let c := (b0 % 8) * 262144 + (atB l 1 % 64) * 4096 + (atB l 2 % 64) * 64 + atB l 3 % 64
    if c ≥ 0x10000 && Utf8.valid c then (c, 4) else (Utf8.runeError, 1)
  else (Utf8.runeError, 1)
theorem get_bang (l : List UInt8) (i : Nat) : (bs l).get! i = l.getD i 0 := by
  simp only [bs, ByteArray.get!]
  simp [List.getD]
  rfl
theorem dec_eq {l : List UInt8} {i : Nat} : Utf8.decode (bs l) i = dec (l.drop i) := by
  have h1 : ∀ k, ((bs l).get! (i + k)).toNat = atB (l.drop i) k := by
    intro k
    rw [get_bang]
    simp [atB, List.getD, List.getElem?_drop]
  have h2 : ∀ k, (decide (i + k < (bs l).size) && atB (l.drop i) k / 64 == 2) = contB (l.drop i) k := by
    intro k
    rw [contB, bs_size, List.length_drop]
    congr 1
    by_cases h : i + k < l.length
    · rw [decide_eq_true h, decide_eq_true (by omega)]
    · rw [decide_eq_false h, decide_eq_false (by omega)]
  simp only [Utf8.decode, h1, h2, dec]
theorem dec_pos (l : List UInt8) : 1 ≤ (dec l).2 := by
  simp only [dec]
  repeat' split
  all_goals simp
theorem contB_lt {l : List UInt8} {k : Nat} (h : contB l k = true) : k < l.length := by
  simp only [contB, Bool.and_eq_true, decide_eq_true_eq] at h
  exact h.1
theorem dec_le {l : List UInt8} (h : 0 < l.length) : (dec l).2 ≤ l.length := by
  simp only [dec]
  repeat' split
  all_goals simp only
  all_goals try omega
  all_goals
    rename_i hc _
    simp only [Bool.and_eq_true] at hc
    first
      | (have := contB_lt hc.2; omega)
theorem dec_four (l : List UInt8) : (dec l).2 ≤ 4 := by
  simp only [dec]
  repeat' split
  all_goals simp
theorem dec_lt (l : List UInt8) : (dec l).1 < 1114112 := by
  have hb : ∀ k, atB l k < 256 := fun k => (l.getD k 0).toNat_lt
  have h0 := hb 0
  unfold dec
  simp only
  split
  · simp only; omega
  · split
    · split <;> simp only [Utf8.runeError] <;> omega
    · split
      · split <;> simp only [Utf8.runeError] <;> omega
      · split
        · rename_i h1
          simp only [Bool.and_eq_true, beq_iff_eq] at h1
          split
          · rename_i h2
            simp only [Bool.and_eq_true, Utf8.valid, Bool.or_eq_true, decide_eq_true_eq] at h2
            simp only
            omega
          · simp [Utf8.runeError]
        · simp [Utf8.runeError]
/-- How many characters. -/
def cnt : Nat → List UInt8 → Nat
  | 0, _ => 0
  | n + 1, l => if l.length = 0 then 0 else 1 + cnt n (l.drop (dec l).2)
def count (l : List UInt8) : Nat := cnt l.length l
theorem cnt_more : ∀ (n : Nat) (l : List UInt8), l.length ≤ n → cnt n l = count l := by
  have key : ∀ (n m : Nat) (l : List UInt8), l.length ≤ n → l.length ≤ m → cnt n l = cnt m l := by
    intro n
    induction n with
    | zero =>
      intro m l h _
      have : l.length = 0 := by omega
      cases m <;> simp [cnt, this]
    | succ n ih =>
      intro m l h h'
      cases m with
      | zero => have : l.length = 0 := by omega
                simp [cnt, this]
      | succ m =>
        simp only [cnt]
        split
        · rfl
        · have := dec_pos l
          rw [ih m _ (by simp; omega) (by simp; omega)]
  intro n l h
  exact key n l.length l h (Nat.le_refl _)
theorem count_nil : count [] = 0 := rfl
theorem count_step {l : List UInt8} (h : 0 < l.length) : count l = 1 + count (l.drop (dec l).2) := by
  have h1 := dec_pos l
  conv => lhs; unfold count
  obtain ⟨n, hn⟩ : ∃ n, l.length = n + 1 := ⟨l.length - 1, by omega⟩
  rw [hn]
  simp only [cnt]
  rw [if_neg (by omega), cnt_more _ _ (by simp; omega)]
theorem count_le : ∀ (n : Nat) (l : List UInt8), l.length ≤ n → count l ≤ l.length := by
  intro n
  induction n with
  | zero => intro l h; have : l = [] := List.eq_nil_of_length_eq_zero (by omega); subst this; simp [count_nil]
  | succ n ih =>
    intro l h
    by_cases hl : 0 < l.length
    · have := dec_pos l
      have h3 := ih (l.drop (dec l).2) (by simp; omega)
      rw [count_step hl]
      simp at h3
      have := dec_le hl
      omega
    · have : l = [] := List.eq_nil_of_length_eq_zero (by omega)
      subst this; simp [count_nil]

theorem O1_br {α : Type} {c : Prop} [Decidable c] {a b : α} {K : α → Prop} {m : Mark K} : O1 (if c then some a else some b) K m = Br (decide c) (K a) (K b) := by
  by_cases h : c <;> simp [h, O1, Br]
theorem next_bs {get : Nat → Option AObj} {k : Nat} : aNext get (.pointer (some ⟨k, 0, none⟩)) = (get k).bind fun o => match o with
    | .iter s pos => if pos < s.size then some (.tuple #[.bool true, .int .i64 pos, .int .i32 (Utf8.decode s pos).1], .set k (.iter s (pos + (Utf8.decode s pos).2))) else some (.tuple #[.bool false], .none)
    | _ => none := by
  simp only [aNext]
  cases get k with
  | none => rfl
  | some o => cases o <;> rfl
theorem not_lt_int {a b : Nat} : decide ((a : Int) < (b : Int)) = decide (a < b) := by simp

/-- All of a row of slots is in the other. -/
def allLook : List (Nat × Value) → List (Nat × Value) → Prop
  | [], _ => True
  | (a, v) :: r, big => look big a = some v ∧ allLook r big
theorem allLook_nil {big : List (Nat × Value)} : allLook [] big = True := rfl
theorem allLook_cons {a : Nat} {v : Value} {r big : List (Nat × Value)} : allLook ((a, v) :: r) big = (look big a = some v ∧ allLook r big) := rfl
theorem allLook_le : ∀ {small big : List (Nat × Value)}, allLook small big → ∀ x v, look small x = some v → look big x = some v
  | [], _, _, x, v, h => by simp [look] at h
  | (a, u) :: r, big, h, x, v, hv => by
    simp only [look] at hv
    split at hv
    · rename_i e; cases hv; rw [← e]; exact h.1
    · exact allLook_le h.2 x v hv

section
variable {P : Program} {G N : Nat}
/-- A LOOP: from the head of a round, all that is left is known of lesser ones. -/
theorem LP.by {α : Type} (tmI : α → List (Nat × Value)) (Inv : α → Mem → Prop) (meas : α → Nat) (a0 : α) {c : Code} {tm0 : List (Nat × Value)} {M0 : Mem} {Q : Exit → St → Prop} {m : Mark Q} (hok : okCode N c = true)
    (hi : Inv a0 M0) (h0 : allLook (tmI a0) tm0)
    (step : ∀ a M, Inv a M → (∀ b tm M', meas b < meas a → Inv b M' → allLook (tmI b) tm → ALoop P G N c ⟨tm, M'⟩ Q) → xCode P G N c ⟨tmI a, M⟩ (thenQ Q fun st' => ALoop P G N c st' Q)) : LP P G N c ⟨tm0, M0⟩ Q m := by
  have key : ∀ (n : Nat) (a : α) (M : Mem) (tm : List (Nat × Value)), meas a < n → Inv a M → allLook (tmI a) tm → ALoop P G N c ⟨tm, M⟩ Q := by
    intro n
    induction n with
    | zero => intro a M tm h; omega
    | succ n ih =>
      intro a M tm h hinv hl
      refine ALoop.less (s := ⟨tmI a, M⟩) ⟨allLook_le hl, rfl, fun _ _ h => h⟩ ?_
      exact ALoop.round hok (step a M hinv fun b tm' M' hb hinv' hl' => ih b M' tm' (by omega) hinv' hl')
  exact key (meas a0 + 1) a0 M0 tm0 (Nat.lt_succ_self _) hi h0
theorem AScope.goA {body c : Code} {st : St} {Q : Exit → St → Prop} (h : ACode P G N c st (scopeQ P G N body Q)) : AScope P G N body c st Q := by
  intro ρ w a hr b k cs
  obtain ⟨e, a₁, w₁, ⟨ρ', st', h1, h2, h3⟩, harr⟩ := h ρ w a hr b (.inScope body :: k) cs
  cases e with
  | normal => exact ⟨.normal, a₁, w₁, ⟨ρ', st', h1, h2, h3⟩, Steps.trans harr (.one step_inScope)⟩
  | exit id => exact ⟨_, a₁, w₁, ⟨ρ', st', h1, h2, h3⟩, fun k' hk => harr k' (by simpa [exitTo] using hk)⟩
  | goto l =>
    simp only [scopeQ] at h1
    split at h1
    · rename_i rest hl
      obtain ⟨e₂, a₂, w₂, hq₂, harr₂⟩ := h1 ρ' w₁ a₁ h2 b k cs
      exact ⟨e₂, a₂, w₂, hq₂.from h3, .of_steps (harr _ (by simp [gotoIn, hl])) harr₂⟩
    · rename_i hl
      exact ⟨_, a₁, w₁, ⟨ρ', st', h1, h2, h3⟩, fun k' hk => harr k' (by simpa [gotoIn, hl] using hk)⟩
  | ret => exact ⟨_, a₁, w₁, ⟨ρ', st', h1, h2, h3⟩, harr⟩
  | panic ch => exact ⟨_, a₁, w₁, ⟨ρ', st', h1, h2, h3⟩, harr⟩
  | outgrown => exact ⟨_, a₁, w₁, ⟨ρ', st', h1, h2, h3⟩, harr⟩
/-- Behind a scope's piece, where all jumps lead to what 'J' tells of. -/
def goQ (J : St → Prop) (lab : Nat) (Q : Exit → St → Prop) (e : Exit) (st : St) : Prop :=
  match e with
  | .goto l => if l = lab then J st else False
  | e => Q e st
theorem goQ_normal {J : St → Prop} {lab : Nat} {Q : Exit → St → Prop} {st : St} : goQ J lab Q .normal st = Q .normal st := rfl
theorem goQ_ret {J : St → Prop} {lab : Nat} {Q : Exit → St → Prop} {st : St} : goQ J lab Q .ret st = Q .ret st := rfl
theorem goQ_exit {J : St → Prop} {lab id : Nat} {Q : Exit → St → Prop} {st : St} : goQ J lab Q (.exit id) st = Q (.exit id) st := rfl
theorem goQ_goto {J : St → Prop} {lab l : Nat} {Q : Exit → St → Prop} {st : St} : goQ J lab Q (.goto l) st = if l = lab then J st else False := rfl
/-- A SCOPE with one label, at its front. -/
theorem SC.by {α : Type} (tmI : α → List (Nat × Value)) (Inv : α → Mem → Prop) (meas : α → Nat) (a0 : α) (lab : Nat) {body rest : Code} {tm0 : List (Nat × Value)} {M0 : Mem} {Q : Exit → St → Prop} {m : Mark Q} (hf : findLabel body lab = some rest)
    (hok0 : okCode N body = true) (hok : okCode N rest = true) (first : ∀ {st : St} {Q' : Exit → St → Prop}, xCode P G N rest st Q' → xCode P G N body st Q')
    (hi : Inv a0 M0) (h0 : allLook (tmI a0) tm0)
    (step : ∀ a M, Inv a M → ∀ J : St → Prop, (∀ b tm M', meas b < meas a → Inv b M' → allLook (tmI b) tm → J ⟨tm, M'⟩) → xCode P G N rest ⟨tmI a, M⟩ (goQ J lab Q)) : SC P G N body body ⟨tm0, M0⟩ Q m := by
  have conv : ∀ a M, Inv a M → (∀ b tm M', meas b < meas a → Inv b M' → allLook (tmI b) tm → AScope P G N body rest ⟨tm, M'⟩ Q) → xCode P G N rest ⟨tmI a, M⟩ (scopeQ P G N body Q) := by
    intro a M hinv ih
    refine xCode_mono ?_ (step a M hinv (fun st => AScope P G N body rest st Q) ih)
    intro e st he
    cases e with
    | goto l =>
      simp only [goQ] at he
      split at he
      · rename_i e; subst e; simp only [scopeQ, hf]; exact he
      · exact he.elim
    | _ => exact he
  have key : ∀ (n : Nat) (a : α) (M : Mem) (tm : List (Nat × Value)), meas a < n → Inv a M → allLook (tmI a) tm → AScope P G N body rest ⟨tm, M⟩ Q := by
    intro n
    induction n with
    | zero => intro a M tm h; omega
    | succ n ih =>
      intro a M tm h hinv hl
      refine AScope.less (s := ⟨tmI a, M⟩) ⟨allLook_le hl, rfl, fun _ _ h => h⟩ ?_
      exact AScope.go hok (conv a M hinv fun b tm' M' hb hinv' hl' => ih b M' tm' (by omega) hinv' hl')
  have h1 : xCode P G N body ⟨tmI a0, M0⟩ (scopeQ P G N body Q) := first (conv a0 M0 hi fun b tm M' hb hinv' hl' => key (meas b + 1) b M' tm (Nat.lt_succ_self _) hinv' hl')
  exact AScope.goA (ACode.less (s := ⟨tmI a0, M0⟩) ⟨allLook_le h0, rfl, fun _ _ h => h⟩ (xCode_sound body hok0 h1))
end
attribute [go_sem ↓] goQ_normal goQ_ret goQ_exit goQ_goto
attribute [go_sem] O1_br next_bs bs_size dec_eq allLook_nil allLook_cons not_lt_int
end Go.AL
end
/- The library of this session's own, part 20: rules for calls, and for regions that draw their order. -/
section
namespace Go.AL
open Go

theorem alloc_if {M : Mem} {a : AObj} {j : Nat} : (M.alloc a).get j = if j = M.next then some a else M.get j := by
  by_cases h : j = M.next
  · rw [if_pos h, get_alloc h]
  · rw [if_neg h, get_alloc' h]
theorem set_if {M : Mem} {a : AObj} {j k : Nat} : (M.set k a).get j = if j = k then some a else M.get j := by
  by_cases h : j = k
  · rw [if_pos h, h, get_set]
  · rw [if_neg h, get_set' h]
theorem move_if {M : Mem} {a : AObj} {j k : Nat} : (M.move k a).get j = if j = M.next then some a else if j = k then none else M.get j := by
  by_cases h : j = M.next
  · rw [if_pos h, get_move h]
  · rw [if_neg h]
    by_cases h' : j = k
    · rw [if_pos h', h']
      simp only [Mem.move]
      rw [upd_ne _ _ (h' ▸ h), upd_self]
    · rw [if_neg h', get_move' h h']
theorem alloc_set_if {M : Mem} {k : Nat} {a b : AObj} : (M.alloc a).set k b = if k = M.next then M.alloc b else (M.set k b).alloc a := by
  by_cases h : k = M.next
  · rw [if_pos h, set_alloc h]
  · rw [if_neg h]
    simp only [Mem.set, Mem.alloc]
    rw [upd_comm _ _ _ h]
theorem set_swap {M : Mem} {k j : Nat} {a b c : AObj} : ((M.set k a).set j b).set k c = if j = k then M.set k c else (M.set k c).set j b := by
  by_cases h : j = k
  · rw [if_pos h, h, set_set, set_set]
  · rw [if_neg h]
    simp only [Mem.set]
    rw [upd_comm _ (some b) (some c) (fun e => h e.symm), upd_upd]
theorem Br_not {b : Bool} {A B : Prop} {m : Mark (A, B)} : Br (!b) A B m = Br b B A := by cases b <;> simp [Br]
theorem nat_ne {a b : Nat} (h : a ≠ b) : (a = b) = False := by simp [h]
theorem flat1_same {ρ : Nat → BI} {S : Nat → Prop} {v v' : Value} (h : flat1 v = true) (hv : VRel ρ S v v') : v' = v := by
  cases hv <;> first | rfl | (simp [flat1] at h; done)
theorem flatL_same {ρ : Nat → BI} {S : Nat → Prop} : ∀ {l l' : List Value}, l.all flat1 = true → LRel ρ S l l' → l' = l
  | [], l', _, h => h.nil_inv
  | v :: l, l', hf, h => by
    obtain ⟨v', t', rfl, hv, ht⟩ := h.cons_inv
    simp only [List.all_cons, Bool.and_eq_true] at hf
    rw [flat1_same hf.1 hv, flatL_same hf.2 ht]

section
variable {P : Program} {G N : Nat}
/-- A function without a body, whose row changes nothing. -/
theorem ACallF.extern {f : FuncId} {fn : Func} {e : Array Value → Sem Value} {args : List Value} {v : Value} {M : Mem} (hf : P.funcs[f]? = some fn) (hn : (fn.name == "runtime.NumGoroutine") = false) (hb : fn.body.isNone = true)
    (h1 : (Extern.findNext fn).isNone = true) (h2 : Extern.find fn = some e) (ha : args.all flat1 = true) (hv : flatV v = true) (hr : ∀ w, (e args.toArray).run P w = .ok v w) : ACallF P G f args M fun v' M' => v' = v ∧ M' = M := by
  intro ρ w cargs hs hl
  have hc : cargs = args.toArray := by
    have := flatL_same ha hl
    rw [← this]
  have h1' : Extern.findNext fn = none := by simpa using h1
  have : (callFunc f cargs).run P w = .ok (.value v) w := by
    simp only [callFunc, Sem.run_bind, run_program, Result.andThen_ok, hf, hn, Bool.false_eq_true, if_false, hb, if_true, run_mark, h1', h2, hc, hr, Sem.run_pure]
  rw [this]
  exact ⟨ρ, v, v, M, rfl, ⟨rfl, rfl⟩, flatV_rel hv, Step.refl hs⟩

/-- 'v' is answered, and nothing is changed. -/
def Says (v : Value) (M : Mem) (v' : Value) (M' : Mem) : Prop := v' = v ∧ M' = M
/-- A call that changes nothing and answers 'v'. -/
def Same (P : Program) (f : FuncId) (args : List Value) (v : Value) : Prop := ∀ (G : Nat) (M : Mem), ACallF P G f args M (Says v M)
theorem CF.same {f : FuncId} {args : List Value} {v : Value} {M : Mem} {K : Value → Mem → Prop} {m : Mark K} (h : Same P f args v) (hk : K v M) : CF P G f args M K m :=
  ACallF.mono (h G M) (by rintro v' M' ⟨rfl, rfl⟩; exact hk)
theorem CF.by {f : FuncId} {args : List Value} {M : Mem} {Q K : Value → Mem → Prop} {m : Mark K} (h : ACallF P G f args M Q) (hk : ∀ v M', Q v M' → K v M') : CF P G f args M K m := ACallF.mono h hk
theorem CF.at {f : FuncId} {args : List Value} {v : Value} {M : Mem} {K : Value → Mem → Prop} {m : Mark K} (h : ACallF P G f args M (Says v M)) (hk : K v M) : CF P G f args M K m :=
  ACallF.mono h (by rintro v' M' ⟨rfl, rfl⟩; exact hk)
theorem Same.of {f : FuncId} {fn : Func} {args : List Value} {v : Value} (hf : P.funcs[f]? = some fn) (hb : fn.body.isNone = false) (hn : (fn.name == "runtime.NumGoroutine") = false) (h : ∀ (G : Nat) (M : Mem), ACalls P G f args M (Says v M)) : Same P f args v :=
  fun G M => (h G M).callF hf hb hn
/-- The end of a function that changes nothing. -/
theorem endSays {v : Value} {M0 M : Mem} {u : Value} (hv : flatV v = true) (hk : Keep M0 M) (h : v = u) : ∃ M2, Fin M0 M v M2 ∧ Says u M0 v M2 := ⟨M0, .same hv hk, h, rfl⟩

/-- All that was there is as it was; and more may be there. -/
def Grow (M M' : Mem) : Prop := Keep M M' ∧ M.next ≤ M'.next
theorem Grow.refl (M : Mem) : Grow M M := ⟨Keep.refl M, Nat.le_refl _⟩
theorem Grow.alloc {M0 M : Mem} {a : AObj} (hw : WF M0) (h : Grow M0 M) : Grow M0 (M.alloc a) := ⟨h.1.alloc hw h.2 a, by rw [next_alloc]; have := h.2; omega⟩
theorem Grow.set {M0 M : Mem} {k : Nat} {a : AObj} (hw : WF M0) (hk : M0.next ≤ k) (h : Grow M0 M) : Grow M0 (M.set k a) := ⟨h.1.set hw hk a, h.2⟩
theorem Grow.move {M0 M : Mem} {k : Nat} {a : AObj} (hw : WF M0) (hk : M0.next ≤ k) (h : Grow M0 M) : Grow M0 (M.move k a) := ⟨h.1.move hw h.2 hk a, by rw [next_move]; have := h.2; omega⟩
theorem endGrow {v : Value} {M0 M : Mem} {u : Value} (hv : flatV v = true) (hk : Grow M0 M) (h : v = u) : ∃ M2, Fin M0 M v M2 ∧ Says u M0 v M2 := endSays hv hk.1 h

/-- One operation of a region that draws, told in the words of a plain row. -/
def bareB (pf : PF) (o : Oper) : Bool :=
  match o.op, o.guard with
  | .call ⟨.value (.func f), _, _⟩, none => (pf f).isNone
  | .call ⟨.builtin _, _, _⟩, _ => true
  | .call _, none => true
  | .call _, some _ => false
  | _, _ => true
theorem kind4_call {pf : PF} {op : Op} (h : kindOf P pf op = 4) : ∃ c, op = .call c := by
  cases op <;> simp only [kindOf] at h <;> try (cases h; done)
  case slice => split at h <;> cases h
  case call c => exact ⟨c, rfl⟩
theorem xOneA_bare {pf : PF} {ops : List Oper} {o : Oper} (hb : bareB pf o = true) {st : St} {K : St → Prop} (h : xOps P G ops [o] st K) : xOneA P G pf [] ops o st K := by
  have off : ∀ e : Eff, e.off [] := fun e => by cases e <;> simp [Eff.off]
  unfold xOneA
  obtain ⟨dst, op, type, pos, after, guard⟩ := o
  by_cases h4 : kindOf P pf op = 4
  · rw [if_pos h4]
    obtain ⟨c, rfl⟩ := kind4_call h4
    cases guard with
    | none => exact ⟨rfl, h⟩
    | some g =>
      exfalso
      obtain ⟨callee, args, ts⟩ := c
      cases callee with
      | builtin b => cases b <;> simp [kindOf] at h4
      | value x => cases x <;> simp [bareB] at hb
      | invoke r m => simp [bareB] at hb
  · rw [if_neg h4]
    have plain : plainOp P G pf op = absOp P G op ∧ ∀ st K, xOp P G ⟨dst, op, type, pos, after, guard⟩ st K = (match absOp P G op st.tm st.mem.get st.mem.next with | some (v, e) => K ⟨putD st.tm dst v, e.app st.mem⟩ | none => False) := by
      cases op with
      | call c =>
        obtain ⟨callee, args, ts⟩ := c
        cases callee with
        | builtin b => exact ⟨rfl, fun _ _ => rfl⟩
        | invoke r m => exact ⟨rfl, fun _ _ => rfl⟩
        | value x =>
          exfalso
          cases x <;> simp [kindOf] at h4
          rename_i f
          cases guard <;> simp [bareB] at hb
          simp [hb] at h4
      | _ => exact ⟨rfl, fun _ _ => rfl⟩
    simp only [xOps] at h
    cases guard with
    | none =>
      simp only at h
      rw [plain.2] at h
      simp only [gOp, plain.1]
      cases he : absOp P G op st.tm st.mem.get st.mem.next with
      | none => rw [he] at h; exact h
      | some p => rw [he] at h; exact ⟨off _, h⟩
    | some g =>
      obtain ⟨j, want⟩ := g
      simp only at h
      simp only [gOp]
      cases hw : wantQ (((ops[j]?).bind (·.dst)).bind (look st.tm)) want with
      | none => rw [hw] at h; exact h
      | some b =>
        rw [hw] at h
        cases b with
        | true =>
          simp only at h ⊢
          rw [plain.2] at h
          rw [plain.1]
          cases he : absOp P G op st.tm st.mem.get st.mem.next with
          | none => rw [he] at h; exact h
          | some p => rw [he] at h; exact ⟨off _, h⟩
        | false => exact ⟨off _, h⟩
/-- A call that is told by a function. -/
def XB (P : Program) (G : Nat) (pf : PF) (ops : List Oper) (o : Oper) (b : Bool) (st : St) (K : St → Prop) (_ : Mark K := .mk) : Prop :=
  match b with
  | true => XO P G ops [o] st K
  | false =>
    match o with
    | ⟨d, .call ⟨.value (.func f), args, _⟩, _, _, _, none⟩ => O1 (pf f) fun F => O1 (evL G st.tm args.toList) fun vs => O1 (F vs) fun v => K ⟨putD st.tm d v, st.mem⟩
    | _ => False
theorem xb_true {pf : PF} {ops : List Oper} {o : Oper} {st : St} {K : St → Prop} {m : Mark K} : XB P G pf ops o true st K m = XO P G ops [o] st K := rfl
theorem xb_false {pf : PF} {ops : List Oper} {d : Option Tmp} {f : FuncId} {args : Array Operand} {ts : Array TypeId} {ty : TypeId} {pos : String} {af : Array Edge} {tm : List (Nat × Value)} {M : Mem} {K : St → Prop} {m : Mark K} :
    XB P G pf ops ⟨d, .call ⟨.value (.func f), args, ts⟩, ty, pos, af, none⟩ false ⟨tm, M⟩ K m = O1 (pf f) fun F => O1 (evL G tm args.toList) fun vs => O1 (F vs) fun v => K ⟨putD tm d v, M⟩ := rfl
/-- A region that draws, told by a row of its operations. -/
def XD (P : Program) (G : Nat) (pf : PF) (ops : List Oper) (l : List Nat) (st : St) (K : St → Prop) (_ : Mark K := .mk) : Prop :=
  match l with
  | [] => K st
  | i :: r => O1 (ops[i]?) fun o => XB P G pf ops o (bareB pf o) st fun st' => XD P G pf ops r st' K
@[congr] theorem XD_congr {pf : PF} {ops : List Oper} {l : List Nat} {st st' : St} {K : St → Prop} {m : Mark K} (h : st = st') : XD P G pf ops l st K m = XD P G pf ops l st' K m := by rw [h]
theorem xd_nil {pf : PF} {ops : List Oper} {st : St} {K : St → Prop} {m : Mark K} : XD P G pf ops [] st K m = K st := rfl
theorem xd_cons {pf : PF} {ops : List Oper} {i : Nat} {r : List Nat} {tm : List (Nat × Value)} {M : Mem} {K : St → Prop} {m : Mark K} : XD P G pf ops (i :: r) ⟨tm, M⟩ K m =
    O1 (ops[i]?) fun o => XB P G pf ops o (bareB pf o) ⟨tm, M⟩ fun st' => XD P G pf ops r st' K := rfl
theorem XD_sound {pf : PF} {ops : List Oper} : ∀ {l : List Nat} {st : St} {K : St → Prop} {m : Mark K}, XD P G pf ops l st K m → xDrawA P G pf [] ops l st K
  | [], st, K, m, h => h
  | i :: r, st, K, m, h => by
    simp only [XD] at h
    simp only [xDrawA]
    cases ho : ops[i]? with
    | none => rw [ho] at h; exact h
    | some o =>
      rw [ho] at h
      simp only [O1_some] at h ⊢
      cases hb : bareB pf o with
      | true =>
        rw [hb] at h
        exact xOneA_mono (fun s hs => XD_sound hs) (xOneA_bare hb h)
      | false =>
        rw [hb] at h
        unfold XB at h
        simp only at h
        split at h <;> try (exact h.elim)
        rename_i d f args ts ty pos af
        simp only [bareB] at hb
        cases hpf : pf f with
        | none => rw [hpf] at hb; cases hb
        | some F =>
          rw [hpf] at h
          unfold xOneA
          rw [if_neg (by simp [kindOf, hpf])]
          simp only [gOp, plainOp, hpf, O1_some] at h ⊢
          cases hv : evL G st.tm args.toList with
          | none => rw [hv] at h; exact h.elim
          | some vs =>
            rw [hv] at h
            simp only [O1_some] at h ⊢
            cases hF : F vs with
            | none => rw [hF] at h; exact h.elim
            | some v => rw [hF] at h; exact ⟨trivial, XD_sound h⟩
theorem DR.way {pf : PF} {ops : Array Oper} {id : Nat} {st : St} {K : St → Prop} {m : Mark K} (perm : List Nat) (hm : P.follows .mixedOrders = true) (hpf : pf.ok P G) (hc : drawB P pf [] N ops perm = true) (h : XD P G pf ops.toList perm (nf st) K) : DR P G N id ops st K m :=
  ADraw.way (av := []) (fx := []) hm hpf hc (by intro t ht; cases ht) (XD_sound h)
theorem bare_eq {pf : PF} {o : Oper} : bareB pf o = match o.op, o.guard with
  | .call ⟨.value (.func f), _, _⟩, none => (pf f).isNone
  | .call ⟨.builtin _, _, _⟩, _ => true
  | .call _, none => true
  | .call _, some _ => false
  | _, _ => true := rfl
theorem none_eq {f : FuncId} : PF.none f = none := rfl
end
attribute [go_sem ↓] xb_true xb_false
attribute [go_sem] alloc_if set_if move_if alloc_set_if set_swap nat_ne Br_not xd_nil xd_cons bare_eq none_eq
end Go.AL
end
/- The library of this session's own, part 21: rules for append, copy, make, bits; a scope whose label stands behind its front. -/
section
namespace Go.AL
open Go

/-- Two ways of an option. -/
def AB {α : Type} (c : Prop) [Decidable c] (a b : Option α) : Option α := if c then a else b
theorem O1_AB {α : Type} {c : Prop} [Decidable c] {a b : Option α} {K : α → Prop} {m : Mark K} : O1 (AB c a b) K m = Br (decide c) (O1 a K) (O1 b K) := by
  by_cases h : c <;> simp [h, AB, O1, Br]
theorem AB_pos {α : Type} {c : Prop} [Decidable c] {a b : Option α} (h : c) : AB c a b = a := if_pos h
theorem AB_neg {α : Type} {c : Prop} [Decidable c] {a b : Option α} (h : ¬ c) : AB c a b = b := if_neg h
theorem maxLen_eq : maxLen = 9223372036854775807 := rfl
/-- A row of bytes as cells. -/
def bcs (l : List UInt8) : List Value := l.map fun b => .int .u8 b.toNat
theorem bcs_map {l : List UInt8} : (l.map fun b => Value.int .u8 b.toNat) = bcs l := rfl
theorem bcs_nil : bcs [] = [] := rfl
theorem bcs_length {l : List UInt8} : (bcs l).length = l.length := by simp [bcs]
theorem bcs_append {a b : List UInt8} : bcs a ++ bcs b = bcs (a ++ b) := by simp [bcs]
theorem bcs_take {l : List UInt8} {n : Nat} : (bcs l).take n = bcs (l.take n) := by simp [bcs]
theorem bcs_drop {l : List UInt8} {n : Nat} : (bcs l).drop n = bcs (l.drop n) := by simp [bcs]
theorem bcs_one : ∀ {l : List UInt8}, (bcs l).all (·.oneCell') = true
  | [] => rfl
  | b :: l => by
    have := @bcs_one l
    simp only [bcs, List.map_cons, List.all_cons, Bool.and_eq_true] at this ⊢
    exact ⟨rfl, this⟩
theorem bytesOf_bcs : ∀ {l : List UInt8}, bytesOf (bcs l) = some l
  | [] => rfl
  | b :: l => by
    have := @bytesOf_bcs l
    simp only [bcs, List.map_cons, bytesOf, Option.map_eq_some_iff] at this ⊢
    exact ⟨l, this, by simp⟩
def newsO (o : Option AObj) (size off n : Nat) : Option (Nat × List Value) :=
  if n = 0 then some (0, []) else
  match o with
  | some (.cells cs _ _ _) => if off + n * size ≤ cs.length then some (n, (cs.drop off).take (n * size)) else none
  | _ => none
theorem news_slice {get : Nat → Option AObj} {size k off n c : Nat} : newsOf get size (.slice (some ⟨k, off, none⟩) n c) = newsO (get k) size off n := by
  simp only [newsOf, newsO]
  cases get k with
  | none => rfl
  | some o => cases o <;> rfl
theorem news_nil {get : Nat → Option AObj} {size : Nat} : newsOf get size (.slice none 0 0) = some (0, []) := rfl
theorem news_string {get : Nat → Option AObj} {size : Nat} {l : List UInt8} : newsOf get size (.string (bs l)) = if size = 1 then some (l.length, bcs l) else none := by
  simp only [newsOf, bs_size, bs_data, bcs]
theorem newsO_cells {size off n : Nat} {cs : List Value} {e fz : Nat} {ro : Bool} : newsO (some (.cells cs e fz ro)) size off n = AB (n = 0) (some (0, [])) (if off + n * size ≤ cs.length then some (n, (cs.drop off).take (n * size)) else none) := rfl
/-- As 'newsO_cells', where the row is known to be long enough. -/
theorem newsO_fits {size off n : Nat} {cs : List Value} {e fz : Nat} {ro : Bool} (h : off + n * size ≤ cs.length) : newsO (some (.cells cs e fz ro)) size off n = some (n, (cs.drop off).take (n * size)) := by
  by_cases hn : n = 0
  · subst hn; simp [newsO]
  · simp only [newsO, hn, if_false, h, if_true]
def appNew (z : TypeId × Nat × Nat) (kk : Nat) (nil : Value) (nw : Nat × List Value) : Option (Value × Eff) :=
  AB (nw.1 = 0) (some (nil, .none)) (if nw.1 * z.2.2 ≤ 140737488355328 ∧ nw.1 ≤ 9223372036854775807 then some (.slice (some ⟨kk, 0, none⟩) nw.1 nw.1, .new (.cells nw.2 z.1 0 false)) else none)
theorem appNew_eq {a b c kk n : Nat} {nil : Value} {l : List Value} : appNew (a, b, c) kk nil (n, l) = AB (n = 0) (some (nil, .none)) (if n * c ≤ 140737488355328 ∧ n ≤ 9223372036854775807 then some (.slice (some ⟨kk, 0, none⟩) n n, .new (.cells l a 0 false)) else none) := rfl
def moveO (z : TypeId × Nat × Nat) (kk k off sl : Nat) (nw : Nat × List Value) (o : Option AObj) : Option (Value × Eff) :=
  match o with
  | some (.cells cs e' fz false) =>
    if e' = z.1 ∧ off + sl * z.2.1 ≤ cs.length ∧ fz ≤ off + sl * z.2.1 ∧ (sl + nw.1) * z.2.2 ≤ 140737488355328 ∧ sl + nw.1 ≤ 9223372036854775807 then
      some (.slice (some ⟨kk, 0, none⟩) (sl + nw.1) (sl + nw.1), .move k (.cells ((cs.drop off).take (sl * z.2.1) ++ nw.2) z.1 (fz - off) false))
    else none
  | _ => none
theorem moveO_cells {a b c kk k off sl n e' fz : Nat} {l cs : List Value} : moveO (a, b, c) kk k off sl (n, l) (some (.cells cs e' fz false)) =
    if e' = a ∧ off + sl * b ≤ cs.length ∧ fz ≤ off + sl * b ∧ (sl + n) * c ≤ 140737488355328 ∧ sl + n ≤ 9223372036854775807 then
      some (.slice (some ⟨kk, 0, none⟩) (sl + n) (sl + n), .move k (.cells ((cs.drop off).take (sl * b) ++ l) a (fz - off) false))
    else none := rfl
def writeO (k off : Nat) (l : List Value) (o : Option AObj) : Option AObj :=
  match o with
  | some (.cells cs e fz false) => if fz ≤ off ∧ off + l.length ≤ cs.length ∧ l.all (·.oneCell') = true then some (.cells (splice cs off l) e fz false) else none
  | _ => none
theorem writeO_cells {k off e fz : Nat} {l cs : List Value} : writeO k off l (some (.cells cs e fz false)) = if fz ≤ off ∧ off + l.length ≤ cs.length ∧ l.all (·.oneCell') = true then some (.cells (splice cs off l) e fz false) else none := rfl
theorem write_eq {get : Nat → Option AObj} {k off : Nat} {l : List Value} : aWrite get k off l = writeO k off l (get k) := by
  simp only [aWrite, writeO]
  cases get k with
  | none => rfl
  | some o => cases o <;> rfl
/-- What of an element's type must be so for 'append'. -/
def elemBad (P : Program) (e size : Nat) (zero : List Value) : Prop := size = 0 ∨ zero.length ≠ size ∨ P.cellsOf e ≠ size
instance (P : Program) (e size : Nat) (zero : List Value) : Decidable (elemBad P e size zero) := by unfold elemBad; infer_instance
theorem elemBad_eq {P : Program} {e size : Nat} {zero : List Value} : elemBad P e size zero = (size = 0 ∨ zero.length ≠ size ∨ P.cellsOf e ≠ size) := rfl
section
variable {P : Program} {G N : Nat} {t0 t1 : TypeId} {get : Nat → Option AObj} {kk k off sl sc : Nat} {u : Value}
/-- The element's type of an append, where all is in order. -/
def appQ (P : Program) (t0 t1 : TypeId) : Option (TypeId × Nat × Nat) :=
  (elemQ P t0).bind fun z => if isSeqQ P t1 = true then (zeroQ P z.1).bind fun zero => if elemBad P z.1 z.2.1 zero then none else some z else none
theorem app_nil : aAppend P t0 t1 get kk (.slice none 0 0) u = (appQ P t0 t1).bind fun z => (newsOf get z.2.1 u).bind fun nw => appNew z kk (.slice none 0 0) nw := by
  simp only [aAppend, appQ]
  cases elemQ P t0 with
  | none => rfl
  | some z =>
    obtain ⟨e, size, bytes⟩ := z
    cases isSeqQ P t1 with
    | false => rfl
    | true =>
      simp only [Option.bind_some, if_true]
      cases hn : newsOf get size u with
      | none => cases zeroQ P e with
        | none => rfl
        | some zero =>
          simp only [Option.bind_some]
          by_cases h : elemBad P e size zero
          · rw [if_pos h]; rfl
          · rw [if_neg h, Option.bind_some, hn]; rfl
      | some nw =>
        obtain ⟨n, news⟩ := nw
        cases zeroQ P e with
        | none => rfl
        | some zero =>
          simp only [Option.bind_some]
          by_cases h : elemBad P e size zero
          · rw [if_pos h, if_pos (show size = 0 ∨ zero.length ≠ size ∨ P.cellsOf e ≠ size from h)]; rfl
          · rw [if_neg h, if_neg (show ¬ (size = 0 ∨ zero.length ≠ size ∨ P.cellsOf e ≠ size) from h), Option.bind_some, hn]
            simp only [Option.bind_some, appNew, AB, maxLen_eq]
            rfl
theorem app_at : aAppend P t0 t1 get kk (.slice (some ⟨k, off, none⟩) sl sc) u = (appQ P t0 t1).bind fun z => (newsOf get z.2.1 u).bind fun nw =>
    AB (nw.1 = 0) (some (.slice (some ⟨k, off, none⟩) sl sc, .none)) (AB (sl + nw.1 ≤ sc) ((writeO k (off + sl * z.2.1) nw.2 (get k)).map fun a => (.slice (some ⟨k, off, none⟩) (sl + nw.1) sc, .set k a)) (moveO z kk k off sl nw (get k))) := by
  simp only [aAppend, appQ]
  cases elemQ P t0 with
  | none => rfl
  | some z =>
    obtain ⟨e, size, bytes⟩ := z
    cases isSeqQ P t1 with
    | false => rfl
    | true =>
      simp only [Option.bind_some, if_true]
      cases hn : newsOf get size u with
      | none => cases zeroQ P e with
        | none => rfl
        | some zero =>
          simp only [Option.bind_some]
          by_cases h : elemBad P e size zero
          · rw [if_pos h]; rfl
          · rw [if_neg h, Option.bind_some, hn]; rfl
      | some nw =>
        obtain ⟨n, news⟩ := nw
        cases zeroQ P e with
        | none => rfl
        | some zero =>
          simp only [Option.bind_some]
          by_cases h : elemBad P e size zero
          · rw [if_pos h, if_pos (show size = 0 ∨ zero.length ≠ size ∨ P.cellsOf e ≠ size from h)]; rfl
          · rw [if_neg h, if_neg (show ¬ (size = 0 ∨ zero.length ≠ size ∨ P.cellsOf e ≠ size) from h), Option.bind_some, hn]
            simp only [Option.bind_some, AB, maxLen_eq, write_eq, moveO]
            cases get k with
            | none => rfl
            | some o => cases o <;> first | rfl | (rename_i fz ro; cases ro <;> rfl)
def makeO (z : TypeId × Nat × Nat) (zero : List Value) (P : Program) (l c : Int) : Option (TypeId × Nat × Nat × List Value) :=
  if 0 ≤ l ∧ l ≤ c ∧ c ≤ 140737488355328 ∧ c.toNat * z.2.2 ≤ 281474976710656 ∧ zero.length = z.2.1 ∧ 0 < z.2.1 ∧ P.cellsOf z.1 = z.2.1 then some (z.1, l.toNat, c.toNat, zerosL zero c.toNat) else none
theorem make_eq {t : TypeId} {l c : Int} {q q' : IntKind} : aMake P t (.int q l) (.int q' c) = (elemQ P t).bind fun z => (zeroF P z.1).bind fun zero => makeO z zero P l c := by
  simp only [aMake]
  cases elemQ P t with
  | none => rfl
  | some z => simp only [Option.bind_some]; cases zeroF P z.1 <;> rfl
theorem makeO_eq {a b d : Nat} {zero : List Value} {l c : Int} : makeO (a, b, d) zero P l c = if 0 ≤ l ∧ l ≤ c ∧ c ≤ 140737488355328 ∧ c.toNat * d ≤ 281474976710656 ∧ zero.length = b ∧ 0 < b ∧ P.cellsOf a = b then some (a, l.toNat, c.toNat, zerosL zero c.toNat) else none := rfl
theorem copy_at {n : Nat} {m : Nat} {v : Value} : aCopy P t0 get (.slice (some ⟨k, off, none⟩) n m) v = (elemQ P t0).bind fun z => (newsOf get z.2.1 v).bind fun nw =>
    AB (Nat.min nw.1 n = 0) (some (.int .i64 0, .none)) ((writeO k off (nw.2.take (Nat.min nw.1 n * z.2.1)) (get k)).map fun a => (.int .i64 (Nat.min nw.1 n), .set k a)) := by
  simp only [aCopy]
  cases elemQ P t0 with
  | none => rfl
  | some z =>
    obtain ⟨e, size, bytes⟩ := z
    simp only [Option.bind_some]
    cases newsOf get size v with
    | none => rfl
    | some nw => obtain ⟨a, b⟩ := nw; simp only [Option.bind_some, AB, write_eq]
theorem copy_nil {v : Value} : aCopy P t0 get (.slice none 0 0) v = (elemQ P t0).bind fun z => (newsOf get z.2.1 v).map fun _ => (.int .i64 0, .none) := by
  simp only [aCopy]
  cases elemQ P t0 with
  | none => rfl
  | some z => obtain ⟨e, size, bytes⟩ := z; simp only [Option.bind_some]; cases newsOf get size v <;> rfl
theorem b_ustr {t t' : TypeId} {p n : Value} : aBuiltin P .unsafeString [t, t'] [p, n] get kk = aUStr P t get p n := rfl
theorem b_udata {ts : List TypeId} {x : Value} : aBuiltin P .unsafeSliceData ts [x] get kk = (aUData x).map fun v => (v, .none) := by unfold aBuiltin; rfl
def elemP (P : Program) (t : TypeId) : Option TypeId :=
  match P.underlying t with
  | some (.pointer e) => some e
  | _ => none
def ustrO (P : Program) (k off : Nat) (n : Int) (e' : TypeId) (o : Option AObj) : Option (Value × Eff) :=
  match o with
  | some (.cells cs e fz false) =>
    if 0 < n ∧ n ≤ 9223372036854775807 ∧ e' = e ∧ P.cellsOf e = 1 ∧ off + n.toNat ≤ cs.length then
      (bytesOf ((cs.drop off).take n.toNat)).map fun b => (.string (bs b), .set k (.cells cs e (max fz (off + n.toNat)) false))
    else none
  | _ => none
theorem ustrO_cells {n : Int} {e' e fz : Nat} {cs : List Value} : ustrO P k off n e' (some (.cells cs e fz false)) =
    if 0 < n ∧ n ≤ 9223372036854775807 ∧ e' = e ∧ P.cellsOf e = 1 ∧ off + n.toNat ≤ cs.length then
      (bytesOf ((cs.drop off).take n.toNat)).map fun b => (.string (bs b), .set k (.cells cs e (max fz (off + n.toNat)) false))
    else none := rfl
theorem ustr_at {t : TypeId} {q : IntKind} {n : Int} : aUStr P t get (.pointer (some ⟨k, off, none⟩)) (.int q n) = AB (n = 0) (some (.string (bs []), .none)) ((elemP P t).bind fun e => ustrO P k off n e (get k)) := by
  simp only [aUStr, AB, elemP]
  by_cases h : n = 0
  · rw [if_pos h, if_pos h]; rfl
  · rw [if_neg h, if_neg h]
    cases hu : P.underlying t with
    | none => rfl
    | some d =>
      cases d <;> try rfl
      simp only [Option.bind_some, ustrO, bs]
      cases get k with
      | none => rfl
      | some o => cases o <;> first | rfl | (rename_i fz ro; cases ro <;> rfl)
theorem udata_at {n c : Nat} : aUData (.slice (some ⟨k, off, none⟩) n c) = if c = 0 then none else some (.pointer (some ⟨k, off, none⟩)) := rfl
-- bits
theorem bin_shr {t : TypeId} {c : Bool} {q q' : IntKind} {a b : Int} : binV P .shr t c (.int q a) (.int q' b) = if 0 ≤ b then some (.int q (a.fdiv (2 ^ (min b.toNat q.bits)))) else none := by
  by_cases h : 0 ≤ b
  · rw [if_pos h]
    have h' : ¬ b < 0 := by omega
    simp only [binV, aBin, binOp, Op.shift]
    simp [h', pureF, pure, flat1]
  · rw [if_neg h]
    have h' : b < 0 := by omega
    simp only [binV, aBin, binOp, Op.shift]
    simp [h', pureF, runtimePanic]
    rfl
theorem bin_and {t : TypeId} {c : Bool} {q : IntKind} {a b : Int} : binV P .and t c (.int q a) (.int q b) = some (.int q (q.wrap (BitVec.ofInt q.bits a &&& BitVec.ofInt q.bits b).toNat)) := by
  simp [binV, aBin, binOp, Op.intBits, pureF, pure, flat1]
theorem bin_or {t : TypeId} {c : Bool} {q : IntKind} {a b : Int} : binV P .or t c (.int q a) (.int q b) = some (.int q (q.wrap (BitVec.ofInt q.bits a ||| BitVec.ofInt q.bits b).toNat)) := by
  simp [binV, aBin, binOp, Op.intBits, pureF, pure, flat1]
theorem bin_quo {t : TypeId} {c : Bool} {q : IntKind} {a b : Int} : binV P .quo t c (.int q a) (.int q b) = if b = 0 then none else some (.int q (q.wrap (a.tdiv b))) := by
  by_cases h : b = 0
  · rw [if_pos h]
    simp [binV, aBin, binOp, Op.intDiv, h, pureF, runtimePanic]
    rfl
  · rw [if_neg h]
    simp [binV, aBin, binOp, Op.intDiv, h, pureF, pure, flat1]
theorem bin_rem {t : TypeId} {c : Bool} {q : IntKind} {a b : Int} : binV P .rem t c (.int q a) (.int q b) = if b = 0 then none else some (.int q (a.tmod b)) := by
  by_cases h : b = 0
  · rw [if_pos h]
    simp [binV, aBin, binOp, Op.intDiv, h, pureF, runtimePanic]
    rfl
  · rw [if_neg h]
    simp [binV, aBin, binOp, Op.intDiv, h, pureF, pure, flat1]
-- conversions of rows
theorem conv_slice {src dst : TypeId} {a : Option Addr} {n c : Nat} : aConvert P src dst get (.slice a n c) = match elemQ P src, P.underlying dst with
    | some (e, 1, _), some .string =>
      match P.underlying e, newsOf get 1 (.slice a n c) with
      | some (.int .u8), some (_, l) => (bytesOf l).map fun b => .string (bs b)
      | _, _ => none
    | _, _ => none := rfl
/-- A SCOPE with one label, that stands behind its front. -/
theorem SC.by2 {α : Type} (tmI : α → List (Nat × Value)) (Inv : α → Mem → Prop) (meas : α → Nat) (a0 : α) (M1 : Mem) (lab : Nat) {body rest : Code} {tm0 : List (Nat × Value)} {M0 : Mem} {Q : Exit → St → Prop} {m : Mark Q} (hf : findLabel body lab = some rest)
    (hok0 : okCode N body = true) (hok : okCode N rest = true) (first : ∀ {Q' : Exit → St → Prop}, xCode P G N rest ⟨tmI a0, M1⟩ Q' → xCode P G N body ⟨tm0, M0⟩ Q')
    (hi : Inv a0 M1)
    (step : ∀ a M, Inv a M → ∀ J : St → Prop, (∀ b tm M', meas b < meas a → Inv b M' → allLook (tmI b) tm → J ⟨tm, M'⟩) → xCode P G N rest ⟨tmI a, M⟩ (goQ J lab Q)) : SC P G N body body ⟨tm0, M0⟩ Q m := by
  have conv : ∀ a M, Inv a M → (∀ b tm M', meas b < meas a → Inv b M' → allLook (tmI b) tm → AScope P G N body rest ⟨tm, M'⟩ Q) → xCode P G N rest ⟨tmI a, M⟩ (scopeQ P G N body Q) := by
    intro a M hinv ih
    refine xCode_mono ?_ (step a M hinv (fun st => AScope P G N body rest st Q) ih)
    intro e st he
    cases e with
    | goto l =>
      simp only [goQ] at he
      split at he
      · rename_i e; subst e; simp only [scopeQ, hf]; exact he
      · exact he.elim
    | _ => exact he
  have key : ∀ (n : Nat) (a : α) (M : Mem) (tm : List (Nat × Value)), meas a < n → Inv a M → allLook (tmI a) tm → AScope P G N body rest ⟨tm, M⟩ Q := by
    intro n
    induction n with
    | zero => intro a M tm h; omega
    | succ n ih =>
      intro a M tm h hinv hl
      refine AScope.less (s := ⟨tmI a, M⟩) ⟨allLook_le hl, rfl, fun _ _ h => h⟩ ?_
      exact AScope.go hok (conv a M hinv fun b tm' M' hb hinv' hl' => ih b M' tm' (by omega) hinv' hl')
  have h1 : xCode P G N body ⟨tm0, M0⟩ (scopeQ P G N body Q) := first (conv a0 M1 hi fun b tm M' hb hinv' hl' => key (meas b + 1) b M' tm (Nat.lt_succ_self _) hinv' hl')
  exact AScope.goA (xCode_sound body hok0 h1)
end
attribute [go_sem ↓] O1_AB
attribute [go_sem] maxLen_eq bcs_map bcs_nil bcs_length bcs_append bcs_take bcs_drop bcs_one bytesOf_bcs news_slice news_nil news_string appNew_eq moveO_cells writeO_cells app_nil app_at make_eq makeO_eq copy_at copy_nil b_ustr b_udata ustrO_cells ustr_at udata_at bin_shr bin_and bin_or bin_quo bin_rem conv_slice
end Go.AL
end
