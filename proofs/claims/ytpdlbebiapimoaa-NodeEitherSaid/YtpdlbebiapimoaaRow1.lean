/- How two texts in an array are read -/
import Derived.Test.YtpdlbebiapimoaaRow0
namespace Go.Proofs.Ytpdlbebiapimoaa.PN
open Go.RowKit Go.Proofs.YtpdlbebiapimoaaW.PrintWords Go.Proofs.YtpdlbebiapimoaaW.PrintLast Go.Proofs.YtpdlbebiapimoaaW.PrintMore
open Go.ChangeShapes Go.WideShapes Go.ChangeAt Go.Joins
set_option linter.unusedVariables false
set_option linter.unusedSimpArgs false
section
variable {H : Type} {enc : TypeId × Value → H} {w : World} {base : Nat} {held : Bool}
theorem reads_arr2 {r : Reach} {b0 : Nat} {v : Value} {d : DataW H} {p : List MemPlace} (hv : Value.okWide Try.prog w r b0 52 v) (h : DataW.Trod enc Try.prog w base (fun _ => true) held 52 v d p) :
    ∃ a0 a1 : ByteArray, v = .agg #[.string a0, .string a1] ∧ a0.size ≤ maxLen ∧ a1.size ≤ maxLen := by
  simp only [Value.okWide, Try.underlying52] at hv
  obtain ⟨cs, rfl, hsz, _⟩ := hv
  have hsz2 : cs.size = 2 := hsz
  obtain ⟨c0, c1, rfl⟩ := array2 hsz2
  obtain ⟨fuel, hf⟩ := h
  cases fuel with
  | zero => simp [DataW.trod] at hf
  | succ m =>
    rw [DataW.trod_step] at hf
    unfold DataW.trodStep at hf
    simp only [Try.underlying52, Value.cells] at hf
    have e9 : Try.prog.cellsOf 9 = 1 := by kernel_rfl
    have e52 : Try.prog.cellsOf 52 = 2 := by kernel_rfl
    rw [e9, e52, if_pos (show [c0, c1].length = 2 from rfl)] at hf
    simp only [Option.map_eq_some_iff, show List.range 2 = [0, 1] from rfl, List.mapM_cons, List.mapM_nil, bind, Option.bind_eq_some_iff, pure, Option.some.injEq] at hf
    obtain ⟨xs, ⟨y0, h0, ys, ⟨y1, h1, _⟩, _⟩, _⟩ := hf
    obtain ⟨s0, e0, _, z0⟩ := DataW.trod_string Try.underlying9 h0
    obtain ⟨s1, e1, _, z1⟩ := DataW.trod_string Try.underlying9 h1
    simp at e0 e1
    subst e0 e1
    exact ⟨s0, s1, rfl, z0, z1⟩
end
end Go.Proofs.Ytpdlbebiapimoaa.PN
