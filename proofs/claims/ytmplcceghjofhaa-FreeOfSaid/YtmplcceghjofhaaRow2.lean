/- How a list of lists of texts that came in is read -/
import Derived.Test.YtmplcceghjofhaaRow0
import Derived.Deep.Slices
namespace Go.Proofs.Ytmplcceghjofhaa.PF
open Go.RowKit Go.Proofs.YtmplcceghjofhaaW.PrintWords Go.Proofs.YtmplcceghjofhaaW.PrintLast Go.Proofs.YtmplcceghjofhaaW.PrintMore
open Go.ChangeShapes Go.WideShapes Go.ChangeAt Go.Joins Go.Deep
open Go.ChangeMaps (open_string shut_string)
set_option linter.unusedVariables false
set_option linter.unusedSimpArgs false
section
variable {H : Type} {enc : TypeId × Value → H} {w : World} {base : Nat} {held : Bool}
theorem reads_texts {n : Nat} {v : Value} {x : DataW H × List MemPlace} (h : DataW.trod enc Try.prog w base (fun _ => true) held n 39 [v] = some x) :
    ∃ (A : Option Addr) (c : Nat) (l : List ByteArray), v = .slice A l.length c ∧ l.length ≤ c ∧ Kd.C Kd.string w A l.length l := by
  rcases open_strings Try.underlying39 Try.underlying9 (by kernel_rfl) h with ⟨hcs, _⟩ | ⟨a, len, cap, ss, hcs, _, hl, hm, hz, _, hcell, hws⟩
  · simp at hcs
    exact ⟨none, 0, [], hcs, Nat.le_refl _, Kd.C_of_reads (d := ByteArray.empty) ⟨rfl, by simp, fun h => by simp at h⟩⟩
  · simp at hcs hz
    have hlen : (ss.take len).length = len := by rw [List.length_take, hz]; omega
    refine ⟨some a, cap, ss.take len, by rw [hlen]; exact hcs, by rw [hlen]; exact hl, ?_⟩
    refine Kd.C_of_reads (d := ByteArray.empty) ⟨rfl, by rw [hlen]; unfold maxLen at hm; omega, fun h => ⟨a, rfl, fun j hj => ?_⟩⟩
    rw [hlen] at hj
    rw [hcell j (by omega)]
    congr 2
    simp [List.getElem?_take, hj]
theorem reads_rows {r : Reach} {b0 : Nat} {v : Value} {d : DataW H} {p : List MemPlace} (hv : Value.okWide Try.prog w r b0 33 v) (h : DataW.Trod enc Try.prog w base (fun _ => true) held 33 v d p) :
    ∃ (A : Option Addr) (c : Nat) (l : List (List ByteArray)), v = .slice A l.length c ∧ Kd.C (Kd.slice 9 Kd.string) w A l.length l ∧ l.length ≤ c := by
  obtain ⟨a0, n0, c0, rfl⟩ := okWide_slice Try.underlying33 hv
  obtain ⟨fuel, h⟩ := h
  rcases open_slice1 Try.underlying33 (by kernel_rfl) h with ⟨hcs, _⟩ | ⟨a, len, cap, m, n, V, D, Pl, hcs, hb, hl, hm, hmm, _, hx⟩
  · have hv2 : Value.slice a0 n0 c0 = .slice none 0 0 := by simpa [Value.cells] using hcs
    exact ⟨none, 0, [], hv2, Kd.C_nil _ _, Nat.le_refl _⟩
  · have hv2 : Value.slice a0 n0 c0 = .slice (some a) len cap := by simpa [Value.cells] using hcs
    have hlm : len ≤ m := by rw [hmm]; simp; omega
    have hall : ∀ i, i < len → ∃ y : Option Addr × Nat × List ByteArray, V i = .slice y.1 y.2.2.length y.2.1 ∧ y.2.2.length ≤ y.2.1 ∧ Kd.C Kd.string w y.1 y.2.2.length y.2.2 := fun i hi => by
      obtain ⟨A, c, l, h1, h2, h3⟩ := reads_texts (hx i (by omega)).2
      exact ⟨(A, c, l), h1, h2, h3⟩
    obtain ⟨Y, hY⟩ := choose_lt hall
    have hll : ((List.range len).map fun i => (Y i).2.2).length = len := by simp
    refine ⟨some a, cap, (List.range len).map fun i => (Y i).2.2, by rw [hll]; exact hv2, ?_, by rw [hll]; exact hl⟩
    rw [hll]
    refine ⟨hll, by unfold maxLen at hm; omega, fun _ => ⟨a, rfl, fun j q hj => ?_⟩⟩
    obtain ⟨hjl, hq⟩ := List.getElem?_eq_some_iff.1 hj
    rw [hll] at hjl
    simp at hq
    subst hq
    obtain ⟨h1, h2, h3⟩ := hY j hjl
    refine ⟨[V j], rfl, ⟨(Y j).1, (Y j).2.1, by rw [h1], h2, h3⟩, fun i u hu => ?_⟩
    match i, hu with
    | 0, hu =>
      simp at hu
      subst hu
      show w.cell? (a.add (j * 1 + 0)) = some (V j)
      rw [Nat.mul_one, Nat.add_zero]
      exact (hx j (by omega)).1
end
end Go.Proofs.Ytmplcceghjofhaa.PF
