/- Plain law: NodeFinds -/
import Derived.Test.YtpdlbebiapimoaaPureB
import Derived.Test.YtpdlbebiapimoaaPureFind
import Derived.Test.YtpdlbebiapimoaaPN19
namespace Go.Proofs.Ytpdlbebiapimoaa.PN
open Go.RowKit Go.Proofs.YtpdlbebiapimoaaW.PrintWords Go.Proofs.YtpdlbebiapimoaaW.PrintLast Go.Proofs.YtpdlbebiapimoaaW.PrintMore
set_option linter.unusedVariables false
set_option linter.unusedSimpArgs false
theorem same_self (b : Bool) (ks vs : List ByteArray) (cs : List Int) (hk : ks.length ≤ 1000000) (hv : vs.length ≤ 1000000) (hc : cs.length ≤ 1000000) : Ev (fun k => lunetteref05_Same.f k b ks vs cs b ks vs cs) true :=
  ev_eq (Same05_ev b ks vs cs b ks vs cs hk hv hc) (by simp)
theorem put_some (b : Bool) (ks vs : List ByteArray) (cs : List Int) (key value : ByteArray) (hr : rising ks = true) (h1 : ks.length ≤ 100000) (h2 : vs.length ≤ 100000) (h3 : cs.length ≤ 100000) (hl : b = true → vs.length = ks.length) :
    ∃ b' ks' vs' cs', node_Put.f b ks vs cs key value = some (b', ks', vs', cs') ∧ ks'.length ≤ 1000000 ∧ vs'.length ≤ 1000000 ∧ cs'.length ≤ 1000000 := by
  unfold node_Put.f
  rw [if_pos (show ks.length ≤ 100000 ∧ vs.length ≤ 100000 ∧ cs.length ≤ 100000 from ⟨h1, h2, h3⟩)]
  cases b with
  | false => exact ⟨_, _, _, _, rfl, by omega, by omega, by omega⟩
  | true =>
    rw [if_pos rfl, if_pos ⟨hr, hl rfl⟩]
    refine ⟨_, _, _, _, rfl, ?_, ?_, by simp⟩ <;> simp only [List.length_append, List.length_take, List.length_drop, List.length_cons, List.length_nil] <;> omega
theorem drop_some (b : Bool) (ks vs : List ByteArray) (cs : List Int) (key : ByteArray) (hr : rising ks = true) (h1 : ks.length ≤ 100000) (h2 : vs.length ≤ 100000) (h3 : cs.length ≤ 100000) (hl : b = true → vs.length = ks.length) :
    ∃ b' ks' vs' cs', node_Drop.f b ks vs cs key = some (b', ks', vs', cs') ∧ ks'.length ≤ 1000000 ∧ vs'.length ≤ 1000000 ∧ cs'.length ≤ 1000000 := by
  unfold node_Drop.f
  rw [if_pos (show (ks.length ≤ 100000 ∧ vs.length ≤ 100000 ∧ cs.length ≤ 100000) ∧ rising ks = true from ⟨⟨h1, h2, h3⟩, hr⟩)]
  by_cases hc : (b && isin ks key) = true
  · rw [if_pos hc, if_pos (hl (by simp at hc; exact hc.1))]
    refine ⟨_, _, _, _, rfl, ?_, ?_, by simp⟩ <;> simp only [List.length_append, List.length_take, List.length_drop] <;> omega
  · rw [if_neg hc]
    exact ⟨_, _, _, _, rfl, by omega, by omega, by omega⟩
theorem NodeFinds_pure (b : Bool) (ks vs : List ByteArray) (cs : List Int) (key : ByteArray) (_ : key.size ≤ maxLen) (value : ByteArray) (_ : value.size ≤ maxLen) : ∃ k, lunettelaw05_NodeFinds.f k b ks vs cs key value = some true := by
  refine Ev.rounds ?_
  unfold lunettelaw05_NodeFinds.f
  refine Ev.bind awake_ev ?_
  simp only [if_true]
  have haw : Ev (fun k => lunettelaw05_NodeFinds.j0 k key value true b ks vs cs) true :=
    Ev.step (f := fun k => (lunettelaw05_awake.f k).bind fun t => some t) (fun k => by simp only [lunettelaw05_NodeFinds.j0]; rw [if_pos trivial]) (Ev.bind (f := fun _ t => some t) awake_ev (Ev.now _))
  refine Ev.bind (few_ev b ks vs cs) (ev_if (fun hf => ?_) (fun _ => haw))
  obtain ⟨h1, h2, h3, h4, h5⟩ := fewS_true hf
  have hs9 : ∀ s ∈ ks, s.size ≤ 1000000000 := fun s hs => by have := h4 s hs; omega
  refine Ev.bind (Check_ev b ks vs cs (by omega) (by omega) (by omega) hs9) (ev_if (fun h0 => ?_) (fun _ => haw))
  refine ev_if (fun _ => haw) (fun hn => ?_)
  by_cases hks : value.size ≤ 300
  · have e : decide ((value.size : Int) > 300) = false := by simp; omega
    rw [e]
    obtain ⟨_, _, hr, hl⟩ := chk_zero h0
    have hl1 : b = true → vs.length = ks.length ∧ cs.length = 0 := fun hb => by subst hb; simpa using hl
    obtain ⟨b1, k1, v1, c1, hp, p1, p2, p3⟩ := put_some b ks vs cs key value hr (by omega) (by omega) (by omega) (fun hb => (hl1 hb).1)
    obtain ⟨b2, k2, v2, c2, hd, d1, d2, d3⟩ := drop_some b ks vs cs key hr (by omega) (by omega) (by omega) (fun hb => (hl1 hb).1)
    have hpr := refPut_eq b ks vs cs key value hr (by omega) (by omega) (by omega) (fun hb => (hl1 hb).1) hs9
    have hdr := refDrop_eq b ks vs cs key hr (by omega) (by omega) (by omega) hl1
    rw [hp] at hpr
    rw [hd] at hdr
    refine Ev.step (f := fun k => (lunetteref05_Find.f k b ks vs cs key).bind fun t => if (if isin ks key && !b then (below ks key : Int) + 1 else (below ks key : Int)) = t.1 then (if (isin ks key == t.2) = true then ((lunetteref05_Same.f k b1 k1 v1 c1 b1 k1 v1 c1).bind fun t2 => if t2 = true then ((lunetteref05_Same.f k b2 k2 v2 c2 b2 k2 v2 c2).bind fun t3 => some t3) else none) else none) else none) (fun k => ?_) ?_
    · simp only [lunettelaw05_NodeFinds.j0]
      rw [if_neg (by decide), find_eq _ _ _ _ _ hr (by omega)]
      simp only [Option.bind_some, hp, hd, hpr, hdr]
    · refine Ev.bind (f := fun k t => if (if isin ks key && !b then (below ks key : Int) + 1 else (below ks key : Int)) = t.1 then (if (isin ks key == t.2) = true then ((lunetteref05_Same.f k b1 k1 v1 c1 b1 k1 v1 c1).bind fun t2 => if t2 = true then ((lunetteref05_Same.f k b2 k2 v2 c2 b2 k2 v2 c2).bind fun t3 => some t3) else none) else none) else none) (refFind_ev b ks vs cs key hr (by omega) hs9) ?_
      refine Ev.congr (f := fun k => ((lunetteref05_Same.f k b1 k1 v1 c1 b1 k1 v1 c1).bind fun t2 => if t2 = true then ((lunetteref05_Same.f k b2 k2 v2 c2 b2 k2 v2 c2).bind fun t3 => some t3) else none)) (fun k => by rw [if_pos rfl, if_pos (by simp)]) ?_
      refine Ev.bind (f := fun k t2 => if t2 = true then ((lunetteref05_Same.f k b2 k2 v2 c2 b2 k2 v2 c2).bind fun t3 => some t3) else none) (same_self b1 k1 v1 c1 p1 p2 p3) ?_
      refine Ev.congr (f := fun k => ((lunetteref05_Same.f k b2 k2 v2 c2 b2 k2 v2 c2).bind fun t3 => some t3)) (fun k => by rw [if_pos rfl]) ?_
      exact Ev.bind (f := fun _ t3 => some t3) (same_self b2 k2 v2 c2 d1 d2 d3) (Ev.now _)
  · have e : decide ((value.size : Int) > 300) = true := by simp; omega
    rw [e]
    exact haw

end Go.Proofs.Ytpdlbebiapimoaa.PN
