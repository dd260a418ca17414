/- Plain law: NodeSplits -/
import Derived.Test.YtpdlbebiapimoaaPureB
import Derived.Test.YtpdlbebiapimoaaPureC
import Derived.Test.YtpdlbebiapimoaaPurePl
import Derived.Test.YtpdlbebiapimoaaPN29
namespace Go.Proofs.Ytpdlbebiapimoaa.PN
open Go.RowKit Go.Proofs.YtpdlbebiapimoaaW.PrintWords Go.Proofs.YtpdlbebiapimoaaW.PrintLast Go.Proofs.YtpdlbebiapimoaaW.PrintMore
set_option linter.unusedVariables false
set_option linter.unusedSimpArgs false
theorem same_self (b : Bool) (ks vs : List ByteArray) (cs : List Int) (hk : ks.length ≤ 1000000) (hv : vs.length ≤ 1000000) (hc : cs.length ≤ 1000000) : Ev (fun k => lunetteref05_Same.f k b ks vs cs b ks vs cs) true :=
 ev_eq (Same05_ev b ks vs cs b ks vs cs hk hv hc) (by simp)
theorem long_sub {m : Int} {l l' : List ByteArray} (h : long m l = false) (hs : ∀ x ∈ l', x ∈ l) : long m l' = false := by
 unfold long at h ⊢
 rw [List.any_eq_false] at h ⊢
 exact fun x hx => h x (hs x hx)
theorem chk_leaf {ks vs : List ByteArray} (h1 : long 100 ks = false) (h2 : long 100 vs = false) (h3 : rising ks = true) (h4 : vs.length = ks.length) : chk true ks vs [] = 0 := by
 unfold chk
 rw [h1, h2, h3]
 simp [h4]
theorem chk_branch {ks : List ByteArray} {cs : List Int} (h1 : long 100 ks = false) (h3 : rising ks = true) (h4 : cs.length = ks.length + 1) (h5 : cs.all (fun k => decide (1 ≤ k ∧ k ≤ 4294967295)) = true) : chk false ks [] cs = 0 := by
 unfold chk
 rw [h1, h3]
 simp only [show long 100 [] = false from rfl, Bool.or_self, Bool.false_eq_true, if_false, Bool.not_true]
 rw [if_pos ⟨h4, rfl, h5⟩]
theorem NodeSplits_pure (b : Bool) (ks vs : List ByteArray) (cs : List Int) : ∃ k, lunettelaw05_NodeSplits.f k b ks vs cs = some true := by
 refine Ev.rounds ?_
 unfold lunettelaw05_NodeSplits.f
 refine Ev.bind awake_ev ?_
 simp only [if_true]
 have haw : Ev (fun k => lunettelaw05_NodeSplits.j0 k true b ks vs cs) true :=
  Ev.step (f := fun k => (lunettelaw05_awake.f k).bind fun t => some t) (fun k => by simp only [lunettelaw05_NodeSplits.j0]; rw [if_pos trivial]) (Ev.bind (f := fun _ t => some t) awake_ev (Ev.now _))
 refine Ev.bind (few_ev b ks vs cs) (ev_if (fun hf => ?_) (fun _ => haw))
 obtain ⟨h1, h2, h3, h4, h5⟩ := fewS_true hf
 refine Ev.bind (Check_ev b ks vs cs (by omega) (by omega) (by omega) (fun s hs => by have := h4 s hs; omega)) ?_
 by_cases h0 : chk b ks vs cs = 0
 ·rw [h0]
  obtain ⟨hk1, hv1, hr, hl⟩ := chk_zero h0
  by_cases hn : ks.length < 2
  ·have htl : (⟨#[]⟩ : ByteArray).toList = [] := by unfold ByteArray.toList ByteArray.toList.loop; rfl
   have hsp : node_Split.f b ks vs cs = some (b, ks, vs, cs, ⟨#[]⟩, true, [], [], []) := by
    unfold node_Split.f
    rw [if_pos ⟨by omega, by omega, by omega⟩, if_pos hn]
   refine Ev.step (f := fun k => ((lunetteref05_Same.f k b ks vs cs b ks vs cs).bind fun t430 => (if t430 = true then ((lunetteref05_Same.f k true [] [] [] true ([] : List ByteArray) ([] : List ByteArray) ([] : List Int)).bind fun t431 => (some t431)) else (none)))) (fun k => ?_) (Ev.bind (f := fun k t430 => (if t430 = true then ((lunetteref05_Same.f k true [] [] [] true ([] : List ByteArray) ([] : List ByteArray) ([] : List Int)).bind fun t431 => (some t431)) else (none))) (same_self b ks vs cs (by omega) (by omega) (by omega)) ?_)
   ·simp only [lunettelaw05_NodeSplits.j0]
    rw [if_neg (by decide), hsp]
    simp only [Option.bind_some]
    rw [if_pos (by omega)]
    simp only [htl, if_true]
   ·exact Ev.congr (fun k => if_pos rfl) (Ev.bind (f := fun _ t => some t) (same_self true [] [] [] (by simp) (by simp) (by simp)) (Ev.now _))
  ·have hn2 : 2 ≤ ks.length := by omega
   have hm : ks.length / 2 < ks.length := by omega
   have hw : wrap64 ((ks.length : Int) / 2) = ((ks.length / 2 : Nat) : Int) := by unfold wrap64; omega
   have hw2 : wrap64 ((ks.length : Int) - ((ks.length / 2 : Nat) : Int)) = ((ks.length - ks.length / 2 : Nat) : Int) := by unfold wrap64; omega
   have hw3 : wrap64 (((ks.length - ks.length / 2 : Nat) : Int) - 0) = ((ks.length - ks.length / 2 : Nat) : Int) := by unfold wrap64; omega
   have hw4 : wrap64 (((ks.length - ks.length / 2 : Nat) : Int) - 1) = ((ks.length - (ks.length / 2 + 1) : Nat) : Int) := by unfold wrap64; omega
   generalize hmd : ks.length / 2 = m at *
   have hs : ks.getD m ⟨#[]⟩ = ks[m] := by rw [List.getD_eq_getElem?_getD, List.getElem?_eq_getElem hm]; rfl
   cases b with
   | true =>
    rw [if_pos rfl] at hl
    obtain rfl : cs = [] := List.eq_nil_of_length_eq_zero hl.2
    have hsp : node_Split.f true ks vs [] = some (true, ks.take m, vs.take m, [], ks[m], true, ks.drop m, vs.drop m, []) := by
     unfold node_Split.f
     rw [if_pos ⟨by omega, by omega, by simp⟩, if_neg hn, if_pos rfl, if_pos hl.1, hmd, hs]
    have hj : node_Join.f true (ks.take m) (vs.take m) [] ks[m] true (ks.drop m) (vs.drop m) [] = some (true, ks, vs, []) := by
     unfold node_Join.f
     rw [if_pos (by simp; omega), if_neg (by decide), if_pos rfl, List.take_append_drop, List.take_append_drop]
    have c1 := chk_leaf (long_sub hk1 (fun x hx => List.mem_of_mem_take hx)) (long_sub hv1 (fun x hx => List.mem_of_mem_take hx)) (rising_takeN hr m) (by rw [List.length_take, List.length_take, hl.1] : (vs.take m).length = (ks.take m).length)
    have c2 := chk_leaf (long_sub hk1 (fun x hx => List.mem_of_mem_drop hx)) (long_sub hv1 (fun x hx => List.mem_of_mem_drop hx)) (rising_dropN hr m) (by rw [List.length_drop, List.length_drop, hl.1] : (vs.drop m).length = (ks.drop m).length)
    refine Ev.step (f := fun k => lunettelaw05_NodeSplits.j1 k ks[m] (m : Int) 0 true ks vs [] true (ks.take m) (vs.take m) [] true (ks.drop m) (vs.drop m) []) (fun k => ?_) ?_
    ·simp only [lunettelaw05_NodeSplits.j0]
     rw [if_neg (by decide), hsp]
     simp only [Option.bind_some]
     rw [if_neg (by omega), if_pos trivial, hw]
    refine Ev.step (f := fun k => (lunetteref05_Check.f k true (ks.take m) (vs.take m) []).bind fun t432 => (if t432 = 0 then ((lunetteref05_Check.f k true (ks.drop m) (vs.drop m) []).bind fun t433 => (if t433 = 0 then ((lunetteref05_Same.f k true ks vs [] true ks vs []).bind fun t444 => (if t444 = true then some true else none)) else (none))) else (none))) (fun k => ?_) ?_
    ·simp only [lunettelaw05_NodeSplits.j1]
     rw [hj]
     simp only [Option.bind_some]
     rw [if_pos (by rw [List.length_take]; omega), hw2, hw3, if_pos (by rw [List.length_drop]), if_pos (by omega), if_pos (by omega), rdS_at hm]
     simp
    ·refine Ev.bind (ev_eq (Check_ev true (ks.take m) (vs.take m) [] (by rw [List.length_take]; omega) (by rw [List.length_take]; omega) (by simp) (fun s hs => by have := h4 s (List.mem_of_mem_take hs); omega)) c1) (Ev.congr (fun k => if_pos rfl) ?_)
     refine Ev.bind (ev_eq (Check_ev true (ks.drop m) (vs.drop m) [] (by rw [List.length_drop]; omega) (by rw [List.length_drop]; omega) (by simp) (fun s hs => by have := h4 s (List.mem_of_mem_drop hs); omega)) c2) (Ev.congr (fun k => if_pos rfl) ?_)
     exact Ev.bind (f := fun _ t444 => (if t444 = true then some true else none)) (same_self true ks vs [] (by omega) (by omega) (by simp)) (Ev.congr (fun k => if_pos rfl) (Ev.now _))
   | false =>
    rw [if_neg (by decide)] at hl
    obtain rfl : vs = [] := List.eq_nil_of_length_eq_zero hl.2.1
    have hsp : node_Split.f false ks [] cs = some (false, ks.take m, [], cs.take (m + 1), ks[m], false, ks.drop (m + 1), [], cs.drop (m + 1)) := by
     unfold node_Split.f
     rw [if_pos ⟨by omega, by simp, by omega⟩, if_neg hn, if_neg (by decide), if_pos hl.1, hmd, hs]
    have hkk : ks.take m ++ ks[m] :: ks.drop (m + 1) = ks := by rw [← List.drop_eq_getElem_cons hm, List.take_append_drop]
    have hj : node_Join.f false (ks.take m) [] (cs.take (m + 1)) ks[m] false (ks.drop (m + 1)) [] (cs.drop (m + 1)) = some (false, ks, [], cs) := by
     unfold node_Join.f
     rw [if_pos (by simp; omega), if_neg (by decide), if_neg (by decide), hkk, List.take_append_drop]
    have hall := hl.2.2
    rw [List.all_eq_true] at hall
    have c1 := chk_branch (long_sub hk1 (fun x hx => List.mem_of_mem_take hx)) (rising_takeN hr m) (by rw [List.length_take, List.length_take, hl.1]; omega : (cs.take (m + 1)).length = (ks.take m).length + 1) (List.all_eq_true.2 fun x hx => hall x (List.mem_of_mem_take hx))
    have c2 := chk_branch (long_sub hk1 (fun x hx => List.mem_of_mem_drop hx)) (rising_dropN hr (m + 1)) (by rw [List.length_drop, List.length_drop, hl.1]; omega : (cs.drop (m + 1)).length = (ks.drop (m + 1)).length + 1) (List.all_eq_true.2 fun x hx => hall x (List.mem_of_mem_drop hx))
    refine Ev.step (f := fun k => lunettelaw05_NodeSplits.j1 k ks[m] (m : Int) 1 false ks [] cs false (ks.take m) [] (cs.take (m + 1)) false (ks.drop (m + 1)) [] (cs.drop (m + 1))) (fun k => ?_) ?_
    ·simp only [lunettelaw05_NodeSplits.j0]
     rw [if_neg (by decide), hsp]
     simp only [Option.bind_some]
     rw [if_neg (by omega), if_neg (by decide), hw]
    refine Ev.step (f := fun k => (lunetteref05_Check.f k false (ks.take m) [] (cs.take (m + 1))).bind fun t432 => (if t432 = 0 then ((lunetteref05_Check.f k false (ks.drop (m + 1)) [] (cs.drop (m + 1))).bind fun t433 => (if t433 = 0 then ((lunetteref05_Same.f k false ks [] cs false ks [] cs).bind fun t444 => (if t444 = true then some true else none)) else (none))) else (none))) (fun k => ?_) ?_
    ·simp only [lunettelaw05_NodeSplits.j1]
     rw [hj]
     simp only [Option.bind_some]
     rw [if_pos (by rw [List.length_take]; omega), hw2, hw4, if_pos (by rw [List.length_drop]), if_pos (by omega), if_pos (by omega), rdS_at hm]
     simp
    ·refine Ev.bind (ev_eq (Check_ev false (ks.take m) [] (cs.take (m + 1)) (by rw [List.length_take]; omega) (by simp) (by rw [List.length_take]; omega) (fun s hs => by have := h4 s (List.mem_of_mem_take hs); omega)) c1) (Ev.congr (fun k => if_pos rfl) ?_)
     refine Ev.bind (ev_eq (Check_ev false (ks.drop (m + 1)) [] (cs.drop (m + 1)) (by rw [List.length_drop]; omega) (by simp) (by rw [List.length_drop]; omega) (fun s hs => by have := h4 s (List.mem_of_mem_drop hs); omega)) c2) (Ev.congr (fun k => if_pos rfl) ?_)
     exact Ev.bind (f := fun _ t444 => (if t444 = true then some true else none)) (same_self false ks [] cs (by omega) (by simp) (by omega)) (Ev.congr (fun k => if_pos rfl) (Ev.now _))
 ·have e : (chk b ks vs cs != 0) = true := by simpa using h0
  rw [e]
  exact haw

end Go.Proofs.Ytpdlbebiapimoaa.PN
