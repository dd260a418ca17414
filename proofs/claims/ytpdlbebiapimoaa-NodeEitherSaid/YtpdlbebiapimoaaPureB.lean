/- Plain law: few -/
import Derived.Test.YtpdlbebiapimoaaPureA
import Derived.Test.YtpdlbebiapimoaaPN12
namespace Go.Proofs.Ytpdlbebiapimoaa.PN
open Go.RowKit Go.Proofs.YtpdlbebiapimoaaW.PrintWords Go.Proofs.YtpdlbebiapimoaaW.PrintLast Go.Proofs.YtpdlbebiapimoaaW.PrintMore
set_option linter.unusedVariables false
set_option linter.unusedSimpArgs false
/-- few -/
def fewS (ks vs : List ByteArray) (cs : List Int) : Bool := decide (ks.length ≤ 100 ∧ vs.length ≤ 100 ∧ cs.length ≤ 101) && (ks.all fun s => decide (s.size ≤ 300)) && vs.all fun s => decide (s.size ≤ 300)
theorem few_l1 (b : Bool) (ks vs : List ByteArray) (cs : List Int) (hv : vs.length ≤ 100000) : ∀ i, i ≤ vs.length → Ev (fun k => lunettelaw05_few.l1 k (i : Int) b ks vs cs) ((vs.drop i).all fun s => decide (s.size ≤ 300)) := by
  refine down (fun i hi ih => ?_) ?_
  · refine Ev.step (f := fun k => if ((vs[i].size : Int) > 300) then some false else lunettelaw05_few.l1 k ((i + 1 : Nat) : Int) b ks vs cs) (fun k => ?_) ?_
    · simp only [lunettelaw05_few.l1]
      rw [if_pos (by omega), if_pos (by omega), rdS_at hi, w1 (by omega)]
    · rw [List.drop_eq_getElem_cons hi, List.all_cons]
      refine ev_if (fun h => ev_some ?_) (fun h => ev_eq ih ?_)
      · simp; omega
      · simp; omega
  · refine Ev.step (f := fun _ => some true) (fun k => ?_) (ev_some (by simp))
    simp only [lunettelaw05_few.l1]
    rw [if_neg (by omega)]
theorem few_l0 (b : Bool) (ks vs : List ByteArray) (cs : List Int) (hk : ks.length ≤ 100000) (hv : vs.length ≤ 100000) : ∀ i, i ≤ ks.length → Ev (fun k => lunettelaw05_few.l0 k (i : Int) b ks vs cs) (((ks.drop i).all fun s => decide (s.size ≤ 300)) && vs.all fun s => decide (s.size ≤ 300)) := by
  refine down (fun i hi ih => ?_) ?_
  · refine Ev.step (f := fun k => if ((ks[i].size : Int) > 300) then some false else lunettelaw05_few.l0 k ((i + 1 : Nat) : Int) b ks vs cs) (fun k => ?_) ?_
    · simp only [lunettelaw05_few.l0]
      rw [if_pos (by omega), if_pos (by omega), rdS_at hi, w1 (by omega)]
    · rw [List.drop_eq_getElem_cons hi, List.all_cons]
      refine ev_if (fun h => ev_some ?_) (fun h => ev_eq ih ?_)
      · have : decide (ks[i].size ≤ 300) = false := by simp; omega
        rw [this]; rfl
      · have : decide (ks[i].size ≤ 300) = true := by simp; omega
        rw [this]; rfl
  · refine Ev.step (f := fun k => lunettelaw05_few.l1 k ((0 : Nat) : Int) b ks vs cs) (fun k => ?_) (ev_eq (few_l1 b ks vs cs hv 0 (Nat.zero_le _)) (by simp))
    simp only [lunettelaw05_few.l0]
    rw [if_neg (by omega)]
    rfl
theorem few_ev (b : Bool) (ks vs : List ByteArray) (cs : List Int) : Ev (fun k => lunettelaw05_few.f k b ks vs cs) (fewS ks vs cs) := by
  have hj : ∀ x : Bool, (x = false → ks.length ≤ 100000 ∧ vs.length ≤ 100000) → Ev (fun k => lunettelaw05_few.j0 k x b ks vs cs) (!x && ((ks.all fun s => decide (s.size ≤ 300)) && vs.all fun s => decide (s.size ≤ 300))) := by
    intro x hx
    cases x with
    | true => exact Ev.step (f := fun _ => some false) (fun k => by simp only [lunettelaw05_few.j0]; rfl) (ev_some rfl)
    | false =>
      obtain ⟨h1, h2⟩ := hx rfl
      refine Ev.step (f := fun k => lunettelaw05_few.l0 k ((0 : Nat) : Int) b ks vs cs) (fun k => by simp only [lunettelaw05_few.j0]; rfl) (ev_eq (few_l0 b ks vs cs h1 h2 0 (Nat.zero_le _)) (by simp))
  unfold fewS lunettelaw05_few.f
  by_cases h1 : ks.length ≤ 100
  · by_cases h2 : vs.length ≤ 100
    · refine Ev.congr (fun k => by rw [if_neg (by omega), if_neg (by omega)]) ?_
      refine ev_eq (hj _ (fun _ => ⟨by omega, by omega⟩)) ?_
      rw [Bool.and_assoc]
      congr 1
      by_cases h3 : cs.length ≤ 101 <;> simp [h1, h2, h3] <;> omega
    · refine Ev.congr (fun k => by rw [if_neg (by omega), if_pos (by omega)]) ?_
      refine ev_eq (hj _ (fun h => by cases h)) ?_
      simp [h2]
  · refine Ev.congr (fun k => by rw [if_pos (by omega)]) ?_
    refine ev_eq (hj _ (fun h => by cases h)) ?_
    simp [h1]
theorem fewS_true {ks vs : List ByteArray} {cs : List Int} (h : fewS ks vs cs = true) : ks.length ≤ 100 ∧ vs.length ≤ 100 ∧ cs.length ≤ 101 ∧ (∀ s ∈ ks, s.size ≤ 300) ∧ ∀ s ∈ vs, s.size ≤ 300 := by
  unfold fewS at h
  simp only [Bool.and_eq_true, decide_eq_true_eq, List.all_eq_true] at h
  exact ⟨h.1.1.1, h.1.1.2.1, h.1.1.2.2, h.1.2, h.2⟩

end Go.Proofs.Ytpdlbebiapimoaa.PN
