/- Plain law: NodeCells -/
import Derived.Test.YtpdlbebiapimoaaPureB
import Derived.Test.YtpdlbebiapimoaaPureC
import Derived.Test.YtpdlbebiapimoaaPureD
import Derived.Test.YtpdlbebiapimoaaPureE
import Derived.Test.YtpdlbebiapimoaaPN19
namespace Go.Proofs.Ytpdlbebiapimoaa.PN
open Go.RowKit Go.Proofs.YtpdlbebiapimoaaW.PrintWords Go.Proofs.YtpdlbebiapimoaaW.PrintLast Go.Proofs.YtpdlbebiapimoaaW.PrintMore
set_option linter.unusedVariables false
set_option linter.unusedSimpArgs false
theorem NodeCells_pure (b : Bool) (ks vs : List ByteArray) (cs : List Int) : ∃ k, lunettelaw05_NodeCells.f k b ks vs cs = some true := by
  refine Ev.rounds ?_
  unfold lunettelaw05_NodeCells.f
  refine Ev.bind awake_ev ?_
  simp only [if_true]
  refine Ev.bind (few_ev b ks vs cs) ?_
  cases hf : fewS ks vs cs with
  | false =>
    refine Ev.step (f := fun k => (lunettelaw05_awake.f k).bind fun t => some t) (fun k => by simp only [lunettelaw05_NodeCells.j0]; rw [if_pos (by decide)]) (Ev.bind (f := fun _ t => some t) awake_ev (Ev.now _))
  | true =>
    obtain ⟨h1, h2, h3, h4, h5⟩ := fewS_true hf
    have b4 : ∀ s ∈ ks, s.size ≤ 100000 := fun s hs => by have := h4 s hs; omega
    have b5 : ∀ s ∈ vs, s.size ≤ 100000 := fun s hs => by have := h5 s hs; omega
    have b6 : ∀ s ∈ ks, s.size ≤ 1000000000 := fun s hs => by have := h4 s hs; omega
    have c1 := nodeCells_ev b ks vs cs (by omega) (by omega) (by omega) b4 b5
    have c2 := Check_ev b ks vs cs (by omega) (by omega) (by omega) b6
    have c3 := nodeRoom_ev b ks vs cs (by omega) (by omega)
    have c4 := refRoom_ev b ks vs cs (by omega) (by omega)
    have hch : node_Check.f b ks vs cs = some (chk b ks vs cs) := by unfold node_Check.f; rw [if_pos ⟨by omega, by omega, by omega⟩]
    refine Ev.step (f := fun k => (node_Cells.f k b ks vs cs).bind fun bt240 => ((lunetteref05_Check.f k b ks vs cs).bind fun t244 => ((node_Check.f b ks vs cs).bind fun t245 => (if t245 = t244 then ((node_Room.f k b ks vs cs).bind fun t246 => ((lunetteref05_Room.f k b ks vs cs).bind fun t247 => (lunettelaw05_NodeCells.j1 k bt240.1 bt240.2 t244 (t246 != t247) b ks vs cs))) else (lunettelaw05_NodeCells.j1 k bt240.1 bt240.2 t244 true b ks vs cs))))) (fun k => by simp only [lunettelaw05_NodeCells.j0]; rw [if_neg (by decide)]) ?_
    refine Ev.bind c1 (Ev.bind c2 ?_)
    simp only [hch, Option.bind_some, if_true]
    refine Ev.bind c3 (Ev.bind c4 ?_)
    simp only [bne_self_eq_false]
    by_cases h0 : chk b ks vs cs = 0
    · rw [if_pos h0, h0]
      have e1 := of_ev b (cellsN b ks vs cs) (by have := cellsN_length b ks vs cs; omega) (cellN_size b ks vs cs h4 h5)
      rw [of_cells b ks vs cs h0] at e1
      have e2 := refCells_ev b ks vs cs (by omega) b4 b5 h0
      have e3 := Same01_ev (cellsN b ks vs cs) (cellsN b ks vs cs) (by have := cellsN_length b ks vs cs; omega)
      have e4 := Same05_ev b ks vs cs b ks vs cs (by omega) (by omega) (by omega)
      refine Ev.step (f := fun k => (node_Of.f k b (cellsN b ks vs cs)).bind fun bt254 => ((lunetteref05_Cells.f k b ks vs cs).bind fun t266 => ((lunetteref01_Same.f k (cellsN b ks vs cs) t266).bind fun t269 => (if t269 = true then (if bt254.2.2.2.2 = 0 then ((lunetteref05_Same.f k b ks vs cs bt254.1 bt254.2.1 bt254.2.2.1 bt254.2.2.2.1).bind fun t270 => (some t270)) else (none)) else (none))))) (fun k => ?_) ?_
      · simp only [lunettelaw05_NodeCells.j1]
        rw [if_neg (by decide), if_pos trivial]
        simp only [Option.bind_some, List.nil_append]
        rw [if_pos (by have := cellsN_length b ks vs cs; simp only [List.length_nil]; omega)]
        rfl
      · refine Ev.bind e1 (Ev.bind e2 (Ev.bind (ev_eq e3 (by simp) : Ev _ true) ?_))
        simp only [if_true]
        exact Ev.bind (f := fun _ t => some t) (ev_eq e4 (by simp) : Ev _ true) (Ev.now _)
    · rw [if_neg h0]
      refine Ev.step (f := fun k => some true) (fun k => ?_) (Ev.now _)
      simp only [lunettelaw05_NodeCells.j1]
      rw [if_neg (by decide), if_neg h0, if_pos (by rfl)]
      simp

end Go.Proofs.Ytpdlbebiapimoaa.PN
