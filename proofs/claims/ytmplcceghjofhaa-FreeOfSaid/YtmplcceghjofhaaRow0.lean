/- How lists of free pages, and a page, that came in are read -/
import Derived.Test.YtmplcceghjofhaaRows
import Derived.Test.YtmplcceghjofhaaPF0
import Derived.WalkKit
import Derived.ProofKit
import Derived.OpenShut
import Derived.ShutString
import Derived.ChangeOld
import Derived.Below
import Derived.SizedLaws
import Derived.SliceStrings
import Derived.ChangeSlices
import Derived.Lib.SmallJoins
import Derived.Deep.SlicePairs
namespace Go.Proofs.Ytmplcceghjofhaa.PF
open Go.RowKit Go.Proofs.YtmplcceghjofhaaW.PrintWords Go.Proofs.YtmplcceghjofhaaW.PrintLast Go.Proofs.YtmplcceghjofhaaW.PrintMore
open Go.ChangeShapes Go.WideShapes Go.ChangeAt Go.Joins Go.Deep
open Go.ChangeMaps (open_string shut_string)
set_option linter.unusedVariables false
set_option linter.unusedSimpArgs false
section
variable {H : Type} {enc : TypeId × Value → H} {w : World} {base : Nat} {held : Bool}
theorem intOf_eq {v : Value} {z : Int} (h : [v] = [Value.int .i64 z]) : v = .int .i64 (intOf v) := by
  simp at h
  subst h
  rfl
theorem reads_frees {r : Reach} {b0 : Nat} {v : Value} {d : DataW H} {p : List MemPlace} (hv : Value.okWide Try.prog w r b0 22 v) (h : DataW.Trod enc Try.prog w base (fun _ => true) held 22 v d p) :
    ∃ (A : Option Addr) (c : Nat) (l : List S25), v = .slice A l.length c ∧ Kd.C k25 w A l.length l ∧ l.length ≤ c ∧ True := by
  obtain ⟨a0, n0, c0, rfl⟩ := okWide_slice Try.underlying22 hv
  obtain ⟨fuel, h⟩ := h
  rcases open_slice_pairs Try.underlying22 Try.underlying25 (by kernel_rfl) rfl rfl (by kernel_rfl) (by kernel_rfl) h with ⟨hcs, _⟩ | ⟨a, len, cap, m, n, V0, V1, D0, D1, P0, P1, hcs, hb, hl, hm, hmm, _, hi⟩
  · have hv2 : Value.slice a0 n0 c0 = .slice none 0 0 := by simpa [Value.cells] using hcs
    exact ⟨none, 0, [], hv2, Kd.C_nil _ _, Nat.le_refl _, trivial⟩
  · have hv2 : Value.slice a0 n0 c0 = .slice (some a) len cap := by simpa [Value.cells] using hcs
    have hlm : len ≤ m := by rw [hmm]; simp; omega
    have hll : ((List.range len).map fun i => (⟨intOf (V0 i), intOf (V1 i)⟩ : S25)).length = len := by simp
    refine ⟨some a, cap, (List.range len).map fun i => (⟨intOf (V0 i), intOf (V1 i)⟩ : S25), by rw [hll]; exact hv2, ?_, by rw [hll]; exact hl, trivial⟩
    rw [hll]
    refine ⟨hll, by unfold maxLen at hm; omega, fun _ => ⟨a, rfl, fun j x hj => ?_⟩⟩
    obtain ⟨hjl, hx⟩ := List.getElem?_eq_some_iff.1 hj
    rw [hll] at hjl
    simp at hx
    subst hx
    obtain ⟨e0, e1, t0, t1⟩ := hi j (by omega)
    obtain ⟨z0, y0, _⟩ := DataW.trod_int Try.underlying3 t0
    obtain ⟨z1, y1, _⟩ := DataW.trod_int Try.underlying3 t1
    refine ⟨[.int .i64 (intOf (V0 j)), .int .i64 (intOf (V1 j))], rfl, k25_mk w _, fun i u hu => ?_⟩
    match i, hu with
    | 0, hu => simp at hu; subst hu; rw [← intOf_eq y0]; exact e0
    | 1, hu => simp at hu; subst hu; rw [← intOf_eq y1]; exact e1
theorem reads_free {r : Reach} {b0 : Nat} {v : Value} {d : DataW H} {p : List MemPlace} (hv : Value.okWide Try.prog w r b0 25 v) (h : DataW.Trod enc Try.prog w base (fun _ => true) held 25 v d p) :
    ∃ a b : Int, v = .agg #[.int .i64 a, .int .i64 b] ∧ True := by
  obtain ⟨v0, v1, y0, y1, n, rfl, _, _, h0, h1⟩ := open_agg2 Try.underlying25 (by kernel_rfl) (by kernel_rfl) hv h
  obtain ⟨z0, e0, _⟩ := DataW.trod_int Try.underlying3 h0
  obtain ⟨z1, e1, _⟩ := DataW.trod_int Try.underlying3 h1
  simp at e0 e1
  subst e0 e1
  exact ⟨z0, z1, rfl, trivial⟩
end
theorem own : ownKnob Try.prog.godebug = none := by kernel_rfl
theorem laidOut : laidOutB Try.prog = true := by kernel_rfl
end Go.Proofs.Ytmplcceghjofhaa.PF
