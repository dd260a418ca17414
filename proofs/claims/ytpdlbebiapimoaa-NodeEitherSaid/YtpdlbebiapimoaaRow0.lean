/- How a node, texts and numbers that came in are read. -/
import Derived.Test.YtpdlbebiapimoaaRows
import Derived.Test.YtpdlbebiapimoaaPN0
import Derived.WalkKit
import Derived.ProofKit
import Derived.OpenShut
import Derived.ShutString
import Derived.ChangeOld
import Derived.Below
import Derived.SizedLaws
import Derived.SliceStrings
import Derived.ChangeSlices
import Derived.Lib.SmallJoins
namespace Go.Proofs.Ytpdlbebiapimoaa.PN
open Go.RowKit Go.Proofs.YtpdlbebiapimoaaW.PrintWords Go.Proofs.YtpdlbebiapimoaaW.PrintLast Go.Proofs.YtpdlbebiapimoaaW.PrintMore
open Go.ChangeShapes Go.WideShapes Go.ChangeAt Go.Joins
open Go.ChangeMaps (open_string shut_string)
set_option linter.unusedVariables false
set_option linter.unusedSimpArgs false
section
variable {H : Type} {enc : TypeId × Value → H} {w : World} {base : Nat} {held : Bool}
theorem reads_strings {cs : List Value} {n : Nat} {v : Value} {x : DataW H × List MemPlace} (h : DataW.trod enc Try.prog w base (fun _ => true) held n 22 [v] = some x) :
    ∃ (A : Option Addr) (c : Nat) (l : List ByteArray), v = .slice A l.length c ∧ l.length ≤ c ∧ Kd.C Kd.string w A l.length l ∧ ∀ s ∈ l, s.size ≤ maxLen := by
  rcases open_strings Try.underlying22 Try.underlying9 (by kernel_rfl) h with ⟨hcs, _⟩ | ⟨a, len, cap, ss, hcs, _, hl, hm, hz, _, hcell, hws⟩
  · simp at hcs
    exact ⟨none, 0, [], hcs, Nat.le_refl _, Kd.C_of_reads (d := ByteArray.empty) ⟨rfl, by simp, fun h => by simp at h⟩, by simp⟩
  · simp at hcs hz
    have hlen : (ss.take len).length = len := by rw [List.length_take, hz]; omega
    refine ⟨some a, cap, ss.take len, by rw [hlen]; exact hcs, by rw [hlen]; exact hl, ?_, fun s hs => hws s (List.mem_of_mem_take hs)⟩
    refine Kd.C_of_reads (d := ByteArray.empty) ⟨rfl, by rw [hlen]; unfold maxLen at hm; omega, fun h => ⟨a, rfl, fun j hj => ?_⟩⟩
    rw [hlen] at hj
    rw [hcell j (by omega)]
    congr 2
    simp [List.getElem?_take, hj]
theorem reads_ints {n : Nat} {v : Value} {x : DataW H × List MemPlace} (h : DataW.trod enc Try.prog w base (fun _ => true) held n 23 [v] = some x) :
    ∃ (A : Option Addr) (c : Nat) (l : List Int), v = .slice A l.length c ∧ l.length ≤ c ∧ Kd.C (Kd.int .i64) w A l.length l := by
  rcases open_ints Try.underlying23 Try.underlying3 (by kernel_rfl) h with ⟨hcs, _⟩ | ⟨a, len, cap, zs, hcs, _, hl, hm, hz, _, hcell, hws⟩
  · simp at hcs
    exact ⟨none, 0, [], hcs, Nat.le_refl _, Kd.C_of_reads (d := (0 : Int)) ⟨rfl, by simp, fun h => by simp at h⟩⟩
  · simp at hcs hz
    have hlen : (zs.take len).length = len := by rw [List.length_take, hz]; omega
    refine ⟨some a, cap, zs.take len, by rw [hlen]; exact hcs, by rw [hlen]; exact hl, ?_⟩
    refine Kd.C_of_reads (d := (0 : Int)) ⟨rfl, by rw [hlen]; unfold maxLen at hm; omega, fun h => ⟨a, rfl, fun j hj => ?_⟩⟩
    rw [hlen] at hj
    rw [hcell j (by omega)]
    congr 2
    simp [List.getElem?_take, hj]
theorem reads_node {r : Reach} {b0 : Nat} {v : Value} {d : DataW H} {p : List MemPlace} (hv : Value.okWide Try.prog w r b0 25 v) (h : DataW.Trod enc Try.prog w base (fun _ => true) held 25 v d p) :
    ∃ (b : Bool) (A1 : Option Addr) (c1 : Nat) (l1 : List ByteArray) (A2 : Option Addr) (c2 : Nat) (l2 : List ByteArray) (A3 : Option Addr) (c3 : Nat) (l3 : List Int),
      v = .agg #[.bool b, .slice A1 l1.length c1, .slice A2 l2.length c2, .slice A3 l3.length c3] ∧
      Kd.C Kd.string w A1 l1.length l1 ∧ l1.length ≤ c1 ∧ Kd.C Kd.string w A2 l2.length l2 ∧ l2.length ≤ c2 ∧ Kd.C (Kd.int .i64) w A3 l3.length l3 ∧ l3.length ≤ c3 := by
  obtain ⟨v0, v1, v2, v3, y0, y1, y2, y3, n, rfl, _, _, h0, h1, h2, h3⟩ := open_agg4 Try.underlying25 (by kernel_rfl) (by kernel_rfl) hv h
  obtain ⟨b, e0, _⟩ := DataW.trod_bool Try.underlying4 h0
  obtain ⟨A1, c1, l1, rfl, g1, r1, _⟩ := reads_strings (cs := []) h1
  obtain ⟨A2, c2, l2, rfl, g2, r2, _⟩ := reads_strings (cs := []) h2
  obtain ⟨A3, c3, l3, rfl, g3, r3⟩ := reads_ints h3
  simp at e0
  subst e0
  exact ⟨b, A1, c1, l1, A2, c2, l2, A3, c3, l3, rfl, r1, g1, r2, g2, r3, g3⟩
end
theorem own : ownKnob Try.prog.godebug = none := by kernel_rfl
theorem laidOut : laidOutB Try.prog = true := by kernel_rfl
theorem reads_strs {H : Type} {enc : TypeId × Value → H} {w : World} {base : Nat} {held : Bool} {r : Reach} {b0 : Nat} {v : Value} {d : DataW H} {p : List MemPlace} (hv : Value.okWide Try.prog w r b0 22 v) (h : DataW.Trod enc Try.prog w base (fun _ => true) held 22 v d p) :
    ∃ (A : Option Addr) (c : Nat) (l : List ByteArray), v = .slice A l.length c ∧ Kd.C Kd.string w A l.length l ∧ l.length ≤ c := by
  obtain ⟨a, n, c, rfl⟩ := okWide_slice Try.underlying22 hv
  obtain ⟨fuel, hf⟩ := h
  obtain ⟨A, c', l, e, g, hr, _⟩ := reads_strings (cs := []) (by simpa [Value.cells] using hf)
  exact ⟨A, c', l, e, hr, g⟩

end Go.Proofs.Ytpdlbebiapimoaa.PN
