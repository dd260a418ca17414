/- How a list of bools that came in is read -/
import Derived.Test.YtmplcceghjofhaaRow0
import Derived.Deep.Grids
namespace Go.Proofs.Ytmplcceghjofhaa.PF
open Go.RowKit Go.Proofs.YtmplcceghjofhaaW.PrintWords Go.Proofs.YtmplcceghjofhaaW.PrintLast Go.Proofs.YtmplcceghjofhaaW.PrintMore
open Go.ChangeShapes Go.WideShapes Go.ChangeAt Go.Joins Go.Deep
open Go.ChangeMaps (open_string shut_string)
set_option linter.unusedVariables false
set_option linter.unusedSimpArgs false
theorem reads_bools {H : Type} {enc : TypeId × Value → H} {w : World} {base : Nat} {held : Bool} {r : Reach} {b0 : Nat} {v : Value} {d : DataW H} {p : List MemPlace} (hv : Value.okWide Try.prog w r b0 46 v) (h : DataW.Trod enc Try.prog w base (fun _ => true) held 46 v d p) :
    ∃ (A : Option Addr) (c : Nat) (l : List Bool), v = .slice A l.length c ∧ Kd.bool.C w A l.length l ∧ l.length ≤ c := by
  obtain ⟨a0, n0, c0, rfl⟩ := okWide_slice Try.underlying46 hv
  obtain ⟨fuel, h⟩ := h
  rcases open_bools Try.underlying46 Try.underlying4 (by kernel_rfl) h with ⟨hcs, _⟩ | ⟨a, len, cap, B, hcs, hb, hl, hm, _, hi⟩
  · have hv2 : Value.slice a0 n0 c0 = .slice none 0 0 := by simpa [Value.cells] using hcs
    exact ⟨none, 0, [], hv2, Kd.C_nil _ _, Nat.le_refl _⟩
  · have hv2 : Value.slice a0 n0 c0 = .slice (some a) len cap := by simpa [Value.cells] using hcs
    have hll : ((List.range len).map B).length = len := by simp
    refine ⟨some a, cap, (List.range len).map B, by rw [hll]; exact hv2, ?_, by rw [hll]; exact hl⟩
    rw [hll]
    refine Kd.C_of_reads (enc := Value.bool) (d := false) (h1 := fun _ => rfl) ⟨hll, by unfold maxLen at hm; omega, fun _ => ⟨a, rfl, fun j hj => ?_⟩⟩
    rw [hi j (by omega)]
    simp [hj]
end Go.Proofs.Ytmplcceghjofhaa.PF
