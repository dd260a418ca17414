/- Plain law: NodeHalves -/
import Derived.Test.YtpdlbebiapimoaaPureB
import Derived.Test.YtpdlbebiapimoaaPureC
import Derived.Test.YtpdlbebiapimoaaPurePl
import Derived.Test.YtpdlbebiapimoaaPN28
namespace Go.Proofs.Ytpdlbebiapimoaa.PN
open Go.RowKit Go.Proofs.YtpdlbebiapimoaaW.PrintWords Go.Proofs.YtpdlbebiapimoaaW.PrintLast Go.Proofs.YtpdlbebiapimoaaW.PrintMore
set_option linter.unusedVariables false
set_option linter.unusedSimpArgs false
theorem split_leaf (ks vs : List ByteArray) (cs : List Int) (h1 : ks.length ≤ 100000) (h2 : vs.length = ks.length) (h3 : cs.length ≤ 100000) (hn : 2 ≤ ks.length) :
    node_Split.f true ks vs cs = some (true, ks.take (ks.length / 2), vs.take (ks.length / 2), [], ks.getD (ks.length / 2) ⟨#[]⟩, true, ks.drop (ks.length / 2), vs.drop (ks.length / 2), []) := by
  unfold node_Split.f
  rw [if_pos ⟨h1, by omega, h3⟩, if_neg (by omega), if_pos rfl, if_pos h2]
theorem NodeHalves_pure (b : Bool) (ks vs : List ByteArray) (cs : List Int) (key : ByteArray) (_ : key.size ≤ maxLen) : ∃ k, lunettelaw05_NodeHalves.f k b ks vs cs key = some true := by
  refine Ev.rounds ?_
  unfold lunettelaw05_NodeHalves.f
  refine Ev.bind awake_ev ?_
  simp only [if_true]
  have haw : ∀ b, Ev (fun k => lunettelaw05_NodeHalves.j0 k key true b ks vs cs) true := fun b =>
    Ev.step (f := fun k => (lunettelaw05_awake.f k).bind fun t => some t) (fun k => by simp only [lunettelaw05_NodeHalves.j0]; rw [if_pos trivial]) (Ev.bind (f := fun _ t => some t) awake_ev (Ev.now _))
  refine Ev.bind (few_ev b ks vs cs) (ev_if (fun hf => ?_) (fun _ => haw b))
  obtain ⟨h1, h2, h3, h4, h5⟩ := fewS_true hf
  refine Ev.bind (Check_ev b ks vs cs (by omega) (by omega) (by omega) (fun s hs => by have := h4 s hs; omega)) (ev_if (fun h0 => ?_) (fun _ => haw b))
  refine ev_if (fun hb => ?_) (fun _ => haw b)
  subst hb
  refine ev_if (fun _ => haw true) (fun hn => ?_)
  by_cases hks : key.size ≤ 300
  · have e : decide ((key.size : Int) > 300) = false := by simp; omega
    rw [e]
    obtain ⟨_, _, hr, hl⟩ := chk_zero h0
    rw [if_pos rfl] at hl
    have hn2 : 2 ≤ ks.length := by omega
    have hm : ks.length / 2 < ks.length := by omega
    have hsp := split_leaf ks vs cs (by omega) hl.1 (by omega) hn2
    generalize hmd : ks.length / 2 = m at hsp hm
    have hs : ks.getD m ⟨#[]⟩ = ks[m] := by rw [List.getD_eq_getElem?_getD, List.getElem?_eq_getElem hm]; rfl
    rw [hs] at hsp
    have hBl := Below_ev key ks[m] (by omega)
    refine Ev.step (f := fun k => (if isin (ks.take m) key = true then (if (isin ks key == true) = true then (if isin (ks.drop m) key = true then (none) else ((lunetteref01_Below.f k key ks[m]).bind fun t400 => (if t400 = true then (some true) else (none)))) else (none)) else (if (isin ks key == isin (ks.drop m) key) = true then (if isin (ks.drop m) key = true then ((lunetteref01_Below.f k key ks[m]).bind fun t401 => (some (!t401))) else (some true)) else (none)))) (fun k => ?_) ?_
    · simp only [lunettelaw05_NodeHalves.j0]
      rw [if_neg (by decide), hsp]
      simp only [Option.bind_some]
      rw [find_eq _ _ _ _ _ hr (by omega), find_eq _ _ _ _ _ (rising_takeN hr m) (by rw [List.length_take]; omega), find_eq _ _ _ _ _ (rising_dropN hr m) (by rw [List.length_drop]; omega)]
      rfl
    · rw [isin_takeN hr, isin_dropN hr]
      cases hi : isin ks key with
      | false => exact Ev.congr (fun k => by simp) (Ev.now true)
      | true =>
        have hmid := slt_mid hr key m hm hi
        by_cases hlt : below ks key < m
        · rw [decide_eq_true hlt] at hmid
          rw [hmid] at hBl
          exact Ev.congr (fun k => by simp [hlt, Nat.not_le.2 hlt]) (Ev.bind (f := fun _ t400 => (if t400 = true then (some true) else (none))) hBl (Ev.congr (fun k => by simp) (Ev.now true)))
        · rw [decide_eq_false hlt] at hmid
          rw [hmid] at hBl
          exact Ev.congr (fun k => by simp [hlt, Nat.not_lt.1 hlt]) (Ev.bind (f := fun _ t401 => (some (!t401))) hBl (Ev.congr (fun k => by simp) (Ev.now true)))
  · have e : decide ((key.size : Int) > 300) = true := by simp; omega
    rw [e]
    exact haw true

end Go.Proofs.Ytpdlbebiapimoaa.PN
