/-
  Walks of the seat of LexCuts, part 23: where a token ends.
-/
import Derived.Test.YtpljlblmagodlaaDoorW22
set_option linter.unusedVariables false
set_option linter.unusedSimpArgs false
set_option linter.unusedSimpArgs false
set_option maxRecDepth 100000
set_option maxHeartbeats 4000000
namespace Go.Proofs.Tryd
open Go Go.AL
/-- An answer of scan.one, and what it is above. -/
structure OneOk (l : List UInt8) (at' : Nat) (x : Int × Nat × Int) : Prop where
  lo : at' ≤ x.2.1
  hi : x.2.1 ≤ l.length
  kind : 0 ≤ x.1 ∧ x.1 < 100
  err : 0 ≤ x.2.2 ∧ x.2.2 < 1000
  on : x.2.2 = 0 → at' < x.2.1
theorem namedF_ok (l : List UInt8) (at' : Nat) (ha : at' < l.length) : ∀ (n e : Nat), at' < e → e ≤ l.length → OneOk l at' (namedF l at' n e)
  | 0, e, h1, h2 => ⟨by simp only [namedF]; omega, h2, by simp [namedF], by simp [namedF], fun _ => h1⟩
  | n + 1, e, h1, h2 => by
    rw [namedF]
    split
    · rename_i hc
      obtain ⟨n1, n2, n3⟩ := nxt_good hc.1
      split
      · exact ⟨Nat.le_refl _, by first | omega | (simp only; omega), by simp, by simp, fun h => by simp at h⟩
      · exact namedF_ok l at' ha n _ (by omega) n3
    · split
      · exact ⟨by first | omega | (simp only; omega), h2, by simp, by simp, fun _ => h1⟩
      · exact ⟨by first | omega | (simp only; omega), h2, by simp, by simp, fun _ => h1⟩
theorem numF_ok (l : List UInt8) (at' : Nat) (ha : at' < l.length) : ∀ (n e : Nat), at' < e → e ≤ l.length → OneOk l at' (numF l at' n e)
  | 0, e, h1, h2 => ⟨by simp only [numF]; omega, h2, by simp [numF], by simp [numF], fun _ => h1⟩
  | n + 1, e, h1, h2 => by
    have := nxt_fit h2
    rw [numF]
    split
    · split
      · exact ⟨Nat.le_refl _, by first | omega | (simp only; omega), by simp, by simp, fun h => by simp at h⟩
      · exact numF_ok l at' ha n _ (by omega) this
    · exact ⟨by first | omega | (simp only; omega), h2, by simp, by simp, fun _ => h1⟩
theorem quoF_ok (l : List UInt8) (at' : Nat) (ha : at' < l.length) : ∀ (n e : Nat), at' < e → e ≤ l.length → OneOk l at' (quoF l at' n e)
  | 0, e, h1, h2 => ⟨by simp only [quoF]; omega, h2, by simp [quoF], by simp [quoF], fun _ => h1⟩
  | n + 1, e, h1, h2 => by
    have := nxt_fit h2
    rw [quoF]
    split
    · exact ⟨Nat.le_refl _, by first | omega | (simp only; omega), by simp, by simp, fun h => by simp at h⟩
    split
    · exact ⟨Nat.le_refl _, by first | omega | (simp only; omega), by simp, by simp, fun h => by simp at h⟩
    split
    · exact ⟨by first | omega | (simp only; omega), by first | omega | (simp only; omega), by simp, by simp, fun h => by simp at h⟩
    split
    · exact ⟨by first | omega | (simp only; omega), this, by simp, by simp, fun _ => by first | omega | (simp only; omega)⟩
    · exact quoF_ok l at' ha n _ (by omega) this
theorem comF_ok (l : List UInt8) (line : Bool) (at' : Nat) (ha : at' < l.length) : ∀ (n e : Nat), at' < e → e ≤ l.length → OneOk l at' (comF l line at' n e)
  | 0, e, h1, h2 => ⟨by simp only [comF]; omega, h2, by simp [comF], by simp [comF], fun _ => h1⟩
  | n + 1, e, h1, h2 => by
    have := nxt_fit h2
    rw [comF]
    split
    · exact ⟨by first | omega | (simp only; omega), h2, by simp, by simp, fun _ => h1⟩
    split
    · exact ⟨Nat.le_refl _, by first | omega | (simp only; omega), by simp, by simp, fun h => by simp at h⟩
    split
    · exact ⟨Nat.le_refl _, by first | omega | (simp only; omega), by simp, by simp, fun h => by simp at h⟩
    split
    · exact comF_ok l line at' ha n _ (by omega) this
    · exact ⟨by first | omega | (simp only; omega), this, by simp, by simp, fun _ => by first | omega | (simp only; omega)⟩
theorem sglF_ok (l : List UInt8) (at' e : Nat) (ha : at' < l.length) (h1 : at' < e) (h2 : e ≤ l.length) : OneOk l at' (sglF l at' e) := by
  have t1 := nxt_fit h2
  have t2 := nxt_fit t1
  unfold sglF
  split
  · exact ⟨Nat.le_refl _, by first | omega | (simp only; omega), by simp, by simp, fun h => by simp at h⟩
  split
  · exact ⟨by first | omega | (simp only; omega), h2, by simp, by simp, fun h => by simp at h⟩
  split
  · exact ⟨Nat.le_refl _, by first | omega | (simp only; omega), by simp, by simp, fun h => by simp at h⟩
  split
  · exact ⟨by first | omega | (simp only; omega), t2, by simp, by simp, fun _ => by first | omega | (simp only; omega)⟩
  · exact ⟨by first | omega | (simp only; omega), t1, by simp, by simp, fun h => by simp at h⟩
theorem sign_fit (l : List UInt8) (at' : Nat) : at' + (sign l at').length ≤ max at' l.length := by
  unfold sign
  split
  · simp; omega
  · have h : at' < l.length := by omega
    have key : (signR (l.drop at')).length ≤ (l.drop at').length := by
      unfold signR
      split
      · rename_i x hx
        simp only [twoSigns, firstPre] at hx
        repeat' split at hx
        all_goals first | (cases hx; simp at *; omega) | cases hx
      · split <;> simp; omega
    simp only [Int.toNat_natCast, List.length_drop] at key ⊢
    omega
theorem oneF_ok (l : List UInt8) (at' : Nat) (ha : at' < l.length) : OneOk l at' (oneF l at') := by
  obtain ⟨n1, n2, n3⟩ := nxt_in ha
  unfold oneF
  split
  · exact namedF_ok l at' ha _ _ (by omega) n2
  split
  · exact numF_ok l at' ha _ _ (by omega) n2
  split
  · exact quoF_ok l at' ha _ _ (by omega) n2
  split
  · exact sglF_ok l at' _ ha (by omega) n2
  split
  · exact comF_ok l _ at' ha _ _ (by omega) n2
  split
  · rename_i h
    have hp : 0 < (sign l at').length := List.length_pos_iff.2 h
    have := sign_fit l at'
    exact ⟨by first | omega | (simp only; omega), by first | omega | (simp only; omega), by simp, by simp, fun _ => by first | omega | (simp only; omega)⟩
  · exact ⟨Nat.le_refl _, by first | omega | (simp only; omega), by simp, by simp, fun h => by simp at h⟩
end Go.Proofs.Tryd
