/- Plain law: NodeJoins -/
import Derived.Test.YtpdlbebiapimoaaPureB
import Derived.Test.YtpdlbebiapimoaaPN27
namespace Go.Proofs.Ytpdlbebiapimoaa.PN
open Go.RowKit Go.Proofs.YtpdlbebiapimoaaW.PrintWords Go.Proofs.YtpdlbebiapimoaaW.PrintLast Go.Proofs.YtpdlbebiapimoaaW.PrintMore
set_option linter.unusedVariables false
set_option linter.unusedSimpArgs false
theorem same_self (b : Bool) (ks vs : List ByteArray) (cs : List Int) (hk : ks.length ≤ 1000000) (hv : vs.length ≤ 1000000) (hc : cs.length ≤ 1000000) : Ev (fun k => lunetteref05_Same.f k b ks vs cs b ks vs cs) true :=
  ev_eq (Same05_ev b ks vs cs b ks vs cs hk hv hc) (by simp)
theorem NodeJoins_pure (b : Bool) (ks vs : List ByteArray) (cs : List Int) (b' : Bool) (ks' vs' : List ByteArray) (cs' : List Int) (key : ByteArray) (_ : key.size ≤ maxLen) : ∃ k, lunettelaw05_NodeJoins.f k b ks vs cs b' ks' vs' cs' key = some true := by
  refine Ev.rounds ?_
  unfold lunettelaw05_NodeJoins.f
  refine Ev.bind awake_ev ?_
  simp only [if_true]
  have haw : Ev (fun k => lunettelaw05_NodeJoins.j0 k key true b ks vs cs b' ks' vs' cs') true :=
    Ev.step (f := fun k => (lunettelaw05_awake.f k).bind fun t => some t) (fun k => by simp only [lunettelaw05_NodeJoins.j0]; rw [if_pos trivial]) (Ev.bind (f := fun _ t => some t) awake_ev (Ev.now _))
  refine Ev.bind (few_ev b ks vs cs) (ev_if (fun hf => ?_) (fun _ => haw))
  refine Ev.bind (few_ev b' ks' vs' cs') (ev_if (fun hf' => ?_) (fun _ => haw))
  obtain ⟨h1, h2, h3, _, _⟩ := fewS_true hf
  obtain ⟨h1', h2', h3', _, _⟩ := fewS_true hf'
  by_cases hks : key.size ≤ 300
  · have e : decide ((key.size : Int) > 300) = false := by simp; omega
    rw [e]
    have hj : node_Join.f b ks vs cs key b' ks' vs' cs' = some (if b != b' then (b, ks, vs, cs) else if b then (true, ks ++ ks', vs ++ vs', []) else (false, ks ++ key :: ks', [], cs ++ cs')) := by
      unfold node_Join.f
      rw [if_pos ⟨⟨by omega, by omega, by omega⟩, by omega, by omega, by omega⟩]
    cases b with
    | true =>
      cases b' with
      | true =>
        refine Ev.step (f := fun k => (lunetteref05_Same.f k true (ks ++ ks') (vs ++ vs') [] true (ks ++ ks') (vs ++ vs') []).bind fun t => some t) (fun k => ?_) (Ev.bind (f := fun _ t => some t) (same_self true (ks ++ ks') (vs ++ vs') [] (by first | omega | (simp; omega) | (simp; done)) (by first | omega | (simp; omega) | (simp; done)) (by first | omega | (simp; omega) | (simp; done))) (Ev.now _))
        simp only [lunettelaw05_NodeJoins.j0]
        rw [if_neg (by decide), hj]
        simp only [Option.bind_some, List.length_nil, List.nil_append]
        rw [if_neg (by decide), if_pos (by omega), if_pos trivial, if_pos (by omega), if_pos (by omega), if_pos (by omega)]
        rfl
      | false =>
        refine Ev.step (f := fun k => (lunetteref05_Same.f k true ks vs cs true ks vs cs).bind fun t => some t) (fun k => ?_) (Ev.bind (f := fun _ t => some t) (same_self true ks vs cs (by first | omega | (simp; omega) | (simp; done)) (by first | omega | (simp; omega) | (simp; done)) (by first | omega | (simp; omega) | (simp; done))) (Ev.now _))
        simp only [lunettelaw05_NodeJoins.j0]
        rw [if_neg (by decide), hj]
        simp only [Option.bind_some]
        rw [if_pos (by decide)]
        rfl
    | false =>
      cases b' with
      | true =>
        refine Ev.step (f := fun k => (lunetteref05_Same.f k false ks vs cs false ks vs cs).bind fun t => some t) (fun k => ?_) (Ev.bind (f := fun _ t => some t) (same_self false ks vs cs (by first | omega | (simp; omega) | (simp; done)) (by first | omega | (simp; omega) | (simp; done)) (by first | omega | (simp; omega) | (simp; done))) (Ev.now _))
        simp only [lunettelaw05_NodeJoins.j0]
        rw [if_neg (by decide), hj]
        simp only [Option.bind_some]
        rw [if_pos (by decide)]
        rfl
      | false =>
        refine Ev.step (f := fun k => (lunetteref05_Same.f k false (ks ++ key :: ks') [] (cs ++ cs') false (ks ++ key :: ks') [] (cs ++ cs')).bind fun t => some t) (fun k => ?_) (Ev.bind (f := fun _ t => some t) (same_self false (ks ++ key :: ks') [] (cs ++ cs') (by first | omega | (simp; omega) | (simp; done)) (by first | omega | (simp; omega) | (simp; done)) (by first | omega | (simp; omega) | (simp; done))) (Ev.now _))
        simp only [lunettelaw05_NodeJoins.j0]
        rw [if_neg (by decide), hj]
        simp only [Option.bind_some, List.length_nil, List.nil_append]
        rw [if_neg (by decide), if_pos (by omega), if_neg (by decide), if_pos (by omega), if_pos (by omega), if_pos (by omega), if_pos (by first | omega | (simp; omega) | (simp; done))]
        simp only [List.append_assoc, List.singleton_append]
        rfl
  · have e : decide ((key.size : Int) > 300) = true := by simp; omega
    rw [e]
    exact haw

end Go.Proofs.Ytpdlbebiapimoaa.PN
