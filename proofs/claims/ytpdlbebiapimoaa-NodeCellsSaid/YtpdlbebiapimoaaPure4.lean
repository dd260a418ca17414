/- Plain laws: the chapter's example -/
import Derived.Test.YtpdlbebiapimoaaPure3
namespace Go.Proofs.Ytpdlbebiapimoaa.PN
open Go.RowKit Go.Proofs.YtpdlbebiapimoaaW.PrintWords Go.Proofs.YtpdlbebiapimoaaW.PrintLast Go.Proofs.YtpdlbebiapimoaaW.PrintMore
set_option linter.unusedVariables false
set_option linter.unusedSimpArgs false
def kA : List ByteArray := [(⟨#[97]⟩ : ByteArray), (⟨#[98]⟩ : ByteArray)]
def vA : List ByteArray := [(⟨#[120]⟩ : ByteArray), (⟨#[]⟩ : ByteArray)]
def cA : List ByteArray := [(⟨#[1, 97, 120]⟩ : ByteArray), (⟨#[1, 98]⟩ : ByteArray)]
theorem slt_def (a b : ByteArray) : slt a b = Op.bytesLess a.data.toList b.data.toList := by unfold slt; rw [toList_eq, toList_eq]
theorem chkA : chk true kA vA [] = 0 := by
  refine chk_mk (by decide +kernel) (by decide +kernel) ?_ ⟨rfl, rfl⟩
  unfold kA rising rising
  rw [slt_def]
  decide +kernel
theorem cellsA : cellsN true kA vA [] = cA := by decide +kernel
theorem ofA : ofS true cA = (true, kA, vA, [], 0) := by
  have h1 : (cA.map cellKey, cA.map cellRest) = (kA, vA) := by decide +kernel
  have h2 : ofS true cA = ofL true [] kA vA [] := by
    unfold ofS
    simp only [if_true]
    unfold cA
    unfold ofL ofL
    rw [if_pos (by decide +kernel), if_pos rfl, if_pos (by decide +kernel), if_pos rfl]
    have e1 : [] ++ [cellKey ⟨#[1, 97, 120]⟩] ++ [cellKey ⟨#[1, 98]⟩] = kA := by decide +kernel
    have e2 : [] ++ [cellRest ⟨#[1, 97, 120]⟩] ++ [cellRest ⟨#[1, 98]⟩] = vA := by decide +kernel
    rw [e1, e2]
    simp only [ofL]
  rw [h2]
  unfold ofL
  rw [if_pos chkA]
theorem findA : node_Find.f true kA vA [] (⟨#[97, 97]⟩ : ByteArray) = some (1, false) := by
  have hr := (chk_zero chkA).2.2.1
  have h1 : below kA ⟨#[97, 97]⟩ = 1 := by
    unfold below
    rw [List.countP_congr (q := fun x => Op.bytesLess x.data.toList [97, 97]) (fun x _ => by rw [slt_def])]
    decide +kernel
  have h2 : isin kA ⟨#[97, 97]⟩ = false := by
    unfold isin kA
    simp only [List.any_cons, List.any_nil, toList_eq]
    decide +kernel
  unfold node_Find.f
  rw [if_pos ⟨hr, by decide⟩, h1, h2]
  rfl
theorem awake_ev : Ev (fun k => lunettelaw05_awake.f k) true := by
  unfold lunettelaw05_awake.f
  simp only [Option.bind_some]
  have hs : ∀ s ∈ kA, s.size ≤ 100000 := by decide +kernel
  have hs2 : ∀ s ∈ vA, s.size ≤ 100000 := by decide +kernel
  have hs3 : ∀ s ∈ cA, s.size ≤ 100000 := by decide +kernel
  have e1 := nodeCells_ev true kA vA [] (by decide) (by decide) (by decide) hs hs2
  rw [if_pos chkA, cellsA] at e1
  have e2 := of_ev true cA (by decide) hs3
  rw [ofA] at e2
  have e3 := Same01_ev cA cA (by decide)
  have e4 := Same05_ev true kA vA [] true kA vA [] (by decide) (by decide) (by decide)
  have e5 := nodeRoom_ev true kA vA [] (by decide) (by decide)
  have e6 : roomS true kA vA [] = 9 := by decide +kernel
  rw [e6] at e5
  refine Ev.bind e1 (Ev.bind e2 ?_)
  have hf := findA
  unfold kA vA at hf
  simp only [hf, Option.bind_some]
  refine Ev.bind (ev_eq e3 (by simp) : Ev _ true) ?_
  simp only [if_true]
  refine Ev.bind (ev_eq e4 (by simp) : Ev _ true) ?_
  simp only [if_true, Bool.false_eq_true, if_false]
  refine Ev.bind e5 ?_
  simp only [if_true]
  have hc := chkA
  unfold kA vA at hc
  simp only [node_Check.f, hc]
  exact ev_some rfl

end Go.Proofs.Ytpdlbebiapimoaa.PN
