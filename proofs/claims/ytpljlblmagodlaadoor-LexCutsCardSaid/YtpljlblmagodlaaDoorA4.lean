/-
  A help text: an abstract memory, and rules that run a loaded function over it (parts 22 to 22). No statement of the seat stands here.
-/
import Derived.Test.YtpljlblmagodlaaDoorA3
set_option linter.unusedVariables false
set_option linter.unusedSimpArgs false
/- The library of this session's own, part 22: a region that draws its order, where what is loaded is not written; ends of functions; what a call leaves alone. -/
section
namespace Go.AL
open Go

section
variable {P : Program} {G N : Nat}
/-- Does an operation leave some blocks alone? -/
def offV (av : List Nat) : Option Value → Prop
  | some (.pointer (some ⟨k, _, none⟩)) => k ∉ av
  | _ => False
def offC (G : Nat) (av : List Nat) (op : Op) (tm : List (Nat × Value)) : Prop :=
  match op with
  | .store _ x _ => offV av (ev G tm x)
  | .next _ _ => False
  | .call ⟨.builtin .len, _, _⟩ => True
  | .call ⟨.builtin .min, _, _⟩ => True
  | .call ⟨.builtin .max, _, _⟩ => True
  | .call ⟨.builtin _, _, _⟩ => False
  | _ => True
theorem plain_off {av : List Nat} {pf : PF} {op : Op} {tm : List (Nat × Value)} {get : Nat → Option AObj} {kk : Nat} {v : Value} {e : Eff} (hc : offC G av op tm) (h : plainOp P G pf op tm get kk = some (v, e)) : e.off av := by
  by_cases h0 : kindOf P pf op = 0
  · rw [(plain0 h0 h).1]; trivial
  by_cases h1 : kindOf P pf op = 1
  · rw [(plain1 h1 h).1]; trivial
  by_cases h2 : kindOf P pf op = 2
  · obtain ⟨a, rfl⟩ := plain2 h2 h; trivial
  cases op <;> simp only [kindOf] at h0 h1 h2 <;> try (first | exact absurd trivial h0 | exact absurd trivial h1 | exact absurd trivial h2)
  case store t x y =>
    simp only [plainOp, absOp, offC] at h hc
    cases hx : ev G tm x with
    | none => rw [hx] at h; simp at h
    | some vx =>
      rw [hx] at h hc
      cases hy : ev G tm y with
      | none => rw [hy] at h; simp at h
      | some vy =>
        rw [hy] at h
        simp only [Option.map_eq_some_iff] at h
        obtain ⟨⟨k, a⟩, h3, h4⟩ := h
        cases h4
        unfold offV at hc
        split at hc <;> try exact hc.elim
        rename_i k' off e
        cases e
        simp only [aStore] at h3
        split at h3 <;> try (cases h3; done)
        simp only [Option.map_eq_some_iff] at h3
        obtain ⟨a', _, h6⟩ := h3
        cases h6
        exact hc
  case slice t x lo hi mx => exfalso; split at h0 <;> simp_all
  case range t x =>
    simp only [plainOp, absOp] at h
    split at h <;> cases h
    trivial
  case call c =>
    obtain ⟨callee, args, ts⟩ := c
    cases callee with
    | builtin b => cases b <;> simp only [offC] at hc <;> simp at h0 h1 h2
    | invoke r m => simp [plainOp, absOp] at h
    | value x =>
      cases x <;> simp only [plainOp, absOp] at h <;> try (cases h; done)
      split at h <;> try (cases h; done)
      simp only [Option.map_eq_some_iff] at h
      obtain ⟨u, _, h4⟩ := h
      cases h4
      trivial
  all_goals first
    | (simp [plainOp, absOp] at h; done)
    | (simp only [offC] at hc; done)
    | (simp only [offC] at hc; exact hc.elim)
    | skip
theorem offC_off {av : List Nat} {pf : PF} {ops : List Oper} {o : Oper} {st : St} {v : Value} {e : Eff} (hc : offC G av o.op st.tm) (h : gOp P G pf ops o st.tm st.mem.get st.mem.next = some (v, e)) : e.off av := by
  unfold gOp at h
  split at h
  · exact plain_off hc h
  · split at h <;> try (cases h; done)
    · exact plain_off hc h
    · cases h; trivial
theorem xOneA_bare' {av : List Nat} {pf : PF} {ops : List Oper} {o : Oper} (hb : bareB pf o = true) {st : St} {K : St → Prop} (hc : offC G av o.op st.tm) (h : xOps P G ops [o] st K) : xOneA P G pf av ops o st K := by
  have h' := xOneA_bare hb h
  unfold xOneA at h' ⊢
  split at h'
  · rename_i h4; rw [if_pos h4]; exact h'
  · rename_i h4
    rw [if_neg h4]
    cases hg : gOp P G pf ops o st.tm st.mem.get st.mem.next with
    | none => rw [hg] at h'; exact h'
    | some p => rw [hg] at h'; exact ⟨offC_off hc hg, h'.2⟩
/-- A region that draws, told by a row of its operations; what is in 'av' is not written. -/
def XF (P : Program) (G : Nat) (pf : PF) (av : List Nat) (ops : List Oper) (l : List Nat) (st : St) (K : St → Prop) (_ : Mark K := .mk) : Prop :=
  match l with
  | [] => K st
  | i :: r => O1 (ops[i]?) fun o => offC G av o.op st.tm ∧ XB P G pf ops o (bareB pf o) st fun st' => XF P G pf av ops r st' K
@[congr] theorem XF_congr {pf : PF} {av : List Nat} {ops : List Oper} {l : List Nat} {st st' : St} {K : St → Prop} {m : Mark K} (h : st = st') : XF P G pf av ops l st K m = XF P G pf av ops l st' K m := by rw [h]
theorem xf_nil {pf : PF} {av : List Nat} {ops : List Oper} {st : St} {K : St → Prop} {m : Mark K} : XF P G pf av ops [] st K m = K st := rfl
theorem xf_cons {pf : PF} {av : List Nat} {ops : List Oper} {i : Nat} {r : List Nat} {tm : List (Nat × Value)} {M : Mem} {K : St → Prop} {m : Mark K} : XF P G pf av ops (i :: r) ⟨tm, M⟩ K m =
    O1 (ops[i]?) fun o => offC G av o.op tm ∧ XB P G pf ops o (bareB pf o) ⟨tm, M⟩ fun st' => XF P G pf av ops r st' K := rfl
theorem XF_sound {pf : PF} {av : List Nat} {ops : List Oper} : ∀ {l : List Nat} {st : St} {K : St → Prop} {m : Mark K}, XF P G pf av ops l st K m → xDrawA P G pf av ops l st K
  | [], st, K, m, h => h
  | i :: r, st, K, m, h => by
    simp only [XF] at h
    simp only [xDrawA]
    cases ho : ops[i]? with
    | none => rw [ho] at h; exact h
    | some o =>
      rw [ho] at h
      simp only [O1_some] at h ⊢
      obtain ⟨hc, h⟩ := h
      cases hb : bareB pf o with
      | true =>
        rw [hb] at h
        exact xOneA_mono (fun s hs => XF_sound hs) (xOneA_bare' hb hc h)
      | false =>
        rw [hb] at h
        unfold XB at h
        simp only at h
        split at h <;> try (exact h.elim)
        rename_i d f args ts ty pos af
        simp only [bareB] at hb
        cases hpf : pf f with
        | none => rw [hpf] at hb; cases hb
        | some F =>
          rw [hpf] at h
          unfold xOneA
          rw [if_neg (by simp [kindOf, hpf])]
          simp only [gOp, plainOp, hpf, O1_some] at h ⊢
          cases hv : evL G st.tm args.toList with
          | none => rw [hv] at h; exact h.elim
          | some vs =>
            rw [hv] at h
            simp only [O1_some] at h ⊢
            cases hF : F vs with
            | none => rw [hF] at h; exact h.elim
            | some v => rw [hF] at h; exact ⟨trivial, XF_sound h⟩
/-- As 'DR.way'; the slots 'fx' hold addresses of the blocks 'av'. -/
theorem DR.wayF {pf : PF} {ops : Array Oper} {id : Nat} {tm : List (Nat × Value)} {M : Mem} {K : St → Prop} {m : Mark K} (perm : List Nat) (av : List Nat) (fx : List Tmp) (hm : P.follows .mixedOrders = true) (hpf : pf.ok P G) (hc : drawB P pf fx N ops perm = true)
    (hfx : ∀ t ∈ fx, ∃ k off, look tm t = some (.pointer (some ⟨k, off, none⟩)) ∧ k ∈ av) (h : XF P G pf av ops.toList perm (nf ⟨tm, M⟩) K) : DR P G N id ops ⟨tm, M⟩ K m :=
  ADraw.way (av := av) (fx := fx) hm hpf hc hfx (XF_sound h)
theorem offC_eq {av : List Nat} {op : Op} {tm : List (Nat × Value)} : offC G av op tm = match op with
  | .store _ x _ => offV av (ev G tm x)
  | .next _ _ => False
  | .call ⟨.builtin .len, _, _⟩ => True
  | .call ⟨.builtin .min, _, _⟩ => True
  | .call ⟨.builtin .max, _, _⟩ => True
  | .call ⟨.builtin _, _, _⟩ => False
  | _ => True := rfl
theorem offV_ptr {av : List Nat} {k off : Nat} : offV av (some (.pointer (some ⟨k, off, none⟩))) = (k ∉ av) := rfl
end

/-- Behind a call nothing lies where the next block will. -/
theorem ACallF.wf {P : Program} {G : Nat} {f : FuncId} {args : List Value} {M : Mem} {Q : Value → Mem → Prop} (h : ACallF P G f args M Q) : ACallF P G f args M fun v M' => WF M' ∧ Q v M' := by
  intro ρ w cargs h1 h2
  have key : ∀ e w', After P G ρ M w Q e w' → After P G ρ M w (fun v M' => WF M' ∧ Q v M') e w' := by
    rintro e w' ⟨ρ', v, v', M', k1, k2, k3, k4⟩
    refine ⟨ρ', v, v', M', k1, ⟨fun k hk => ?_, k2⟩, k3, k4⟩
    cases hg : M'.get k with
    | none => rfl
    | some o => exact absurd (k4.sim.live k o hg) (by omega)
  have := h ρ w cargs h1 h2
  generalize (callFunc f cargs).run P w = r at this ⊢
  split at this
  · exact Calls.mono this fun _ _ => key _ _
  · exact key _ _ this
  · exact this.elim
theorem CF.byW {P : Program} {G : Nat} {f : FuncId} {args : List Value} {M : Mem} {Q K : Value → Mem → Prop} {m : Mark K} (h : ACallF P G f args M Q) (hk : ∀ v M', WF M' → Q v M' → K v M') : CF P G f args M K m :=
  ACallF.mono h.wf fun v M' h => hk v M' h.1 h.2
/-- The end of a function, with all that is there. -/
theorem endAll {v : Value} {M0 M : Mem} {Q : Value → Mem → Prop} (h : Q v M) : ∃ M2, Fin M0 M v M2 ∧ Q v M2 := ⟨M, .less M rfl (fun _ _ h => h), h⟩

/-- What is not of 'F' is as it was; what is of 'F'' was of 'F', or is new. -/
structure Own (M M' : Mem) (F F' : Nat → Prop) : Prop where
  next : M.next ≤ M'.next
  keep : ∀ j o, M.get j = some o → ¬ F j → M'.get j = some o
  new : ∀ j, F' j → F j ∨ M.next ≤ j
theorem Own.refl (M : Mem) (F : Nat → Prop) : Own M M F F := ⟨Nat.le_refl _, fun _ _ h _ => h, fun _ h => .inl h⟩
theorem Own.trans {M M' M'' : Mem} {F F' F'' : Nat → Prop} (hw : WF M) (h : Own M M' F F') (k : Own M' M'' F' F'') : Own M M'' F F'' where
  next := Nat.le_trans h.next k.next
  keep := fun j o hj hn => k.keep j o (h.keep j o hj hn) fun hf => by
    rcases h.new j hf with h1 | h1
    · exact hn h1
    · have := hw.lt hj; omega
  new := fun j hf => by
    rcases k.new j hf with h1 | h1
    · exact h.new j h1
    · exact .inr (Nat.le_trans h.next h1)
/-- Of more blocks less is said. -/
theorem Own.more {M M' : Mem} {F F' H : Nat → Prop} (h : Own M M' F F') (hf : ∀ j, F j → H j) : Own M M' H F' := ⟨h.next, fun j o hj hn => h.keep j o hj fun e => hn (hf j e), fun j e => (h.new j e).imp (hf j) id⟩
theorem Own.grow {M M' : Mem} {F : Nat → Prop} (h : Grow M M') : Own M M' F F := ⟨h.2, fun j o hj _ => h.1 j o hj, fun _ h => .inl h⟩
theorem Own.al {M0 M : Mem} {F F' : Nat → Prop} {a : AObj} (hw : WF M0) (h : Own M0 M F F') : Own M0 (M.alloc a) F F' where
  next := by rw [next_alloc]; have := h.next; omega
  keep := fun j o hj hn => by
    have := hw.lt hj
    have := h.next
    rw [get_alloc' (by omega)]; exact h.keep j o hj hn
  new := h.new
theorem Own.st {M0 M : Mem} {F F' : Nat → Prop} {k : Nat} {a : AObj} (hw : WF M0) (hk : F k ∨ M0.next ≤ k) (h : Own M0 M F F') : Own M0 (M.set k a) F F' where
  next := h.next
  keep := fun j o hj hn => by
    have := hw.lt hj
    rw [get_set' (by rintro rfl; rcases hk with e | e; exact hn e; omega)]; exact h.keep j o hj hn
  new := h.new
theorem Own.mv {M0 M : Mem} {F F' : Nat → Prop} {k : Nat} {a : AObj} (hw : WF M0) (hk : F k ∨ M0.next ≤ k) (h : Own M0 M F F') : Own M0 (M.move k a) F F' where
  next := by rw [next_move]; have := h.next; omega
  keep := fun j o hj hn => by
    have := hw.lt hj
    have := h.next
    rw [get_move' (by omega) (by rintro rfl; rcases hk with e | e; exact hn e; omega)]; exact h.keep j o hj hn
  new := h.new
/-- The same, of other blocks at the end. -/
theorem Own.to {M0 M : Mem} {F F' F'' : Nat → Prop} (hn : ∀ j, F'' j → F j ∨ M0.next ≤ j) (h : Own M0 M F F') : Own M0 M F F'' := ⟨h.next, h.keep, hn⟩
theorem Own.keepAll {M M' : Mem} {F F' : Nat → Prop} (h : Own M M' F F') {j : Nat} {o : AObj} (hj : M.get j = some o) (hn : ¬ F j) : M'.get j = some o := h.keep j o hj hn
attribute [go_sem] xf_nil xf_cons offC_eq offV_ptr
end Go.AL
end
