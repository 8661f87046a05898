/-
  The seat of LexCuts: its argument and its tables, as the row hands them over.
-/
import Derived.Test.YtpljlblmagodlaaDoorW28
import Derived.Test.YtpljlblmagodlaaDoorP7
import Derived.Test.YtpljlblmagodlaaDoorA6
import Derived.Test.YtpljlblmagodlaaDoorRows
import Derived.SliceStrings
import Derived.SizedLaws
import Derived.LaidMore
import Derived.ProofKit
set_option linter.unusedVariables false
set_option linter.unusedSimpArgs false
set_option linter.unusedVariables false
set_option maxRecDepth 100000
namespace Go.Proofs.YtpljlblmagodlaaDoor
open Go Go.AL Go.Proofs.Tryd Go.ChangeShapes Go.WideShapes Go.ChangeAt Go.RowKit
def acceptZ : List (Int × Int) := [(128, 191), (160, 191), (128, 159), (144, 191), (128, 143), (0, 0), (0, 0), (0, 0), (0, 0), (0, 0), (0, 0), (0, 0), (0, 0), (0, 0), (0, 0), (0, 0)]
def tabL : List (Nat × List Value) := [(0, firstL), (1, acceptL), (3, pairL letterT), (4, pairL otherT)]
def firstZ : List Int := Go.Pinned.utf8FirstZ.map fun n : Nat => Int.ofNat n
theorem firstL_eq : (firstZ.map fun z => Value.int .u8 z) = firstL := by kernel_rfl
theorem acceptL_eq : (acceptZ.flatMap fun z => [Value.int .u8 z.1, .int .u8 z.2]) = acceptL := by kernel_rfl
theorem letterL_eq : (letterT.flatMap fun z => [Value.int .i64 z.1, .int .i64 z.2]) = pairL letterT := by kernel_rfl
theorem otherL_eq : (otherT.flatMap fun z => [Value.int .i64 z.1, .int .i64 z.2]) = pairL otherT := by kernel_rfl
theorem tabs_laid {W : World} (h : laidMetH Tryd.prog Rows.lexCutsRow.laid W) : ∀ y ∈ tabL, Lay W y.1 y.2 ∧ y.2.all intV = true := by
  rw [MakeChecks.laidMetH_plain _ _ _ (by kernel_rfl)] at h
  obtain ⟨ps, hv, _⟩ := h
  have h1 := laid_ints hv (k := .u8) (n := "unicode/utf8.first") (g := 0) (t := 73) firstZ (List.mem_of_getElem? (i := 3) (by kernel_rfl)) (by kernel_rfl) (by kernel_rfl) (by kernel_rfl)
  have h2 := laid_pairs hv (k := .u8) (n := "unicode/utf8.acceptRanges") (g := 1) (t := 76) acceptZ (List.mem_of_getElem? (i := 0) (by kernel_rfl)) (by kernel_rfl) (by kernel_rfl) (by kernel_rfl)
  have h3 := laid_pairs hv (k := .i64) (n := "colophon/class.letters") (g := 3) (t := 86) letterT (List.mem_of_getElem? (i := 1) (by kernel_rfl)) (by kernel_rfl) (by kernel_rfl) (by kernel_rfl)
  have h4 := laid_pairs hv (k := .i64) (n := "colophon/class.others") (g := 4) (t := 88) otherT (List.mem_of_getElem? (i := 2) (by kernel_rfl)) (by kernel_rfl) (by kernel_rfl) (by kernel_rfl)
  rw [firstL_eq] at h1
  rw [acceptL_eq] at h2
  rw [letterL_eq] at h3
  rw [otherL_eq] at h4
  intro y hy
  simp only [tabL, List.mem_cons, List.not_mem_nil, or_false] at hy
  rcases hy with rfl | rfl | rfl | rfl
  · exact ⟨h1, by kernel_rfl⟩
  · exact ⟨h2, by kernel_rfl⟩
  · exact ⟨h3, by kernel_rfl⟩
  · exact ⟨h4, by kernel_rfl⟩
theorem glob0 {W : World} {bx : Nat} {x : Option (List Value)} : Glob 5 (memT W 5 tabL bx x) :=
  ⟨by decide, ⟨_, _, memT.tab (by decide) rfl⟩, ⟨_, _, memT.tab (by decide) rfl⟩⟩
theorem globU0 {W : World} {bx : Nat} {x : Option (List Value)} : GlobU 5 (memT W 5 tabL bx x) :=
  ⟨by decide, ⟨_, _, memT.tab (by decide) rfl⟩, ⟨_, _, memT.tab (by decide) rfl⟩⟩
theorem bs_toList (s : ByteArray) : bs s.data.toList = s := by
  cases s
  simp [bs]
/-- The row's one argument, for the walk. -/
theorem handed {H : Type} {enc : TypeId × Value → H} {W : World} {base : Nat} {v : Value} {d : DataW H} {p : List MemPlace} {tabs : List (Nat × List Value)} (G : Nat)
    (hok : Value.okWide Tryd.prog W .any base 22 v) (h : DataW.Trod enc Tryd.prog W 0 (fun _ => true) true 22 v d p) (hsz : (DataW.weightsEach Tryd.prog [22] [d]).all (· ≤ reachBytes) = true) :
    ∃ (l : List (List UInt8)) (va : Value) (bx off : Nat) (x : Option (List Value)), (∀ cs, x = some cs → Lies W bx off cs ∧ cs.all plainV = true ∧ ∃ s, Value.string s ∈ cs) ∧
      VRel (rhoT Tryd.prog W G bx off) (fun k => k < (memT W G tabs bx x).next) va v ∧ StrArg Tryd.prog (memT W G tabs bx x) 22 va l ∧ (∀ s ∈ l, s.length < 281474976710656) ∧ l.length < 281474976710656 := by
  have hu : Tryd.prog.underlying 22 = some (.slice 9) := by kernel_rfl
  have hu2 : Tryd.prog.underlying 9 = some .string := by kernel_rfl
  have hc : Tryd.prog.cellsOf 9 = 1 := by kernel_rfl
  have h47 := reachBytes_lt
  obtain ⟨a, len, cap, rfl⟩ := okWide_slice hu hok
  obtain ⟨fuel, hf⟩ := h
  rcases open_strings hu hu2 hc hf with ⟨hcs, hx⟩ | ⟨a, len', cap', ss, hcs, _, hl, hm, hz, hx, hcell, hsize⟩
  · have hcs' : [Value.slice a len cap] = [.slice none 0 0] := hcs
    obtain ⟨rfl, rfl, rfl⟩ : a = none ∧ len = 0 ∧ cap = 0 := by simpa using hcs'
    refine ⟨[], .slice none 0 0, 0, 0, none, (fun _ h => by cases h), .sliceNil, ⟨by rfl, fun h => absurd h (by decide)⟩, (fun _ h => by cases h), by decide⟩
  · have hcs' : [Value.slice _ len cap] = [.slice (some a) len' cap'] := hcs
    simp only [List.cons.injEq, Value.slice.injEq, and_true] at hcs'
    obtain ⟨rfl, rfl, rfl⟩ := hcs'
    rw [if_pos rfl] at hz
    obtain ⟨rfl, rfl⟩ := Prod.mk.inj hx
    have hspot : a.spot = none := by
      simp only [Value.okWide, hu, Cell.okWide, Cell.ok] at hok
      exact hok.2.2.2.1
    have hw := sized_slice hsz (j := 0) (t := 22) (e := 9) rfl rfl hu
    have hb9 : Tryd.prog.bytesOf 9 = 16 := by kernel_rfl
    simp only [strs, List.length_map, List.length_take, List.length_drop, hb9] at hw
    have hlen : len < 281474976710656 := by omega
    have hbs : ∀ s ∈ (ss.take len).map fun s => s.data.toList, s.length < 281474976710656 := by
      intro s hs
      obtain ⟨y, hy, rfl⟩ := List.mem_map.1 hs
      have := List.all_eq_true.1 hsz _ (DataW.weights_mem_each (j := 0) (t := 22) rfl rfl y.data.toList.length (by
        simp only [DataW.weights, hu, List.mem_cons, List.mem_append]
        exact Or.inr (Or.inl (weightsAll_mem (d := .lit (.string y.data.toList)) (List.mem_map.2 ⟨y, hy, rfl⟩) (by simp [DataW.weights])))))
      simp only [decide_eq_true_eq] at this
      omega
    have hll : ((ss.take len).map fun s => s.data.toList).length = len := by simp; omega
    have hmap : (((ss.take len).map fun s => s.data.toList).map fun s => Value.string (bs s)) = (ss.take len).map .string := by
      rw [List.map_map]
      exact List.map_congr_left fun y _ => congrArg Value.string (bs_toList y)
    have hrel : VRel (rhoT Tryd.prog W G a.block a.off) (fun k => k < G + 1) (.slice (some ⟨G, 0, none⟩) len cap) (.slice (some a) len cap) := by
      have := VRel.slice (ρ := rhoT Tryd.prog W G a.block a.off) (S := fun k => k < G + 1) G 0 a.off len cap cap (by show G < G + 1; omega) hl (Nat.le_refl _) (fun _ => by simp [rhoT]) (Or.inl rfl)
      simp only [rhoT, Nat.lt_irrefl, if_false] at this
      rwa [show (⟨a.block, a.off, none⟩ : Addr) = a by rw [← hspot]] at this
    by_cases h0 : len = 0
    · refine ⟨(ss.take len).map fun s => s.data.toList, .slice (some ⟨G, 0, none⟩) len cap, a.block, a.off, none, (fun _ h => by cases h), hrel, ⟨by rw [hll]; rfl, fun h => by omega⟩, hbs, by omega⟩
    · refine ⟨(ss.take len).map fun s => s.data.toList, .slice (some ⟨G, 0, none⟩) len cap, a.block, a.off, some ((ss.take len).map .string), (fun cs h => ?_), hrel, ⟨by rw [hll]; rfl, fun h => ⟨G, _, cap, by rw [hll], by rw [hmap]; exact memT.arg⟩⟩, hbs, by omega⟩
      cases h
      refine ⟨Lies.of_cells hspot (by simp; omega) fun i hi => ?_, List.all_eq_true.2 fun v hv => ?_, ?_⟩
      · have hi' : i < ss.length := by simp at hi; omega
        rw [hcell i hi']
        simp [List.getD, hi']
      · obtain ⟨y, _, rfl⟩ := List.mem_map.1 hv
        rfl
      · exact ⟨ss[0], List.mem_map.2 ⟨ss[0], List.mem_iff_getElem.2 ⟨0, by simp; omega, by simp⟩, rfl⟩⟩
end Go.Proofs.YtpljlblmagodlaaDoor
