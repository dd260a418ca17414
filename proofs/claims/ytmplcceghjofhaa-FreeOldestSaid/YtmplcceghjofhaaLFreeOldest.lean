/- Plain law: FreeOldest -/
import Derived.Test.YtmplcceghjofhaaPureTake
import Derived.Test.YtmplcceghjofhaaPF6
namespace Go.Proofs.Ytmplcceghjofhaa.PF
open Go.RowKit Go.Proofs.YtmplcceghjofhaaW.PrintWords Go.Proofs.YtmplcceghjofhaaW.PrintLast Go.Proofs.YtmplcceghjofhaaW.PrintMore
set_option linter.unusedVariables false
set_option linter.unusedSimpArgs false
theorem FreeOldest_law (l : List S25) (a b : Int) : ∃ k, lunettelaw06_FreeOldest.f k l a b = some true := by
  refine Ev.rounds ?_
  unfold lunettelaw06_FreeOldest.f
  have hj : Ev (fun k => lunettelaw06_FreeOldest.j0 k l a b true) true := by
    refine Ev.step (f := fun _ => some true) (fun k => ?_) (Ev.now _)
    simp only [lunettelaw06_FreeOldest.j0, lunettelaw06_awake.f, Option.bind_some]
    rw [if_pos trivial]
  refine ev_if (fun h => hj) (fun h => ?_)
  refine Ev.bind (f := fun k t => if t = true then lunettelaw06_FreeOldest.j0 k l a b (decide (a > b)) else lunettelaw06_FreeOldest.j0 k l a b true) (rcheck_ev l (by omega)) (ev_if (fun hc => ?_) (fun _ => hj))
  by_cases hab : a > b
  · rw [decide_eq_true hab]; exact hj
  · rw [decide_eq_false hab]
    obtain ⟨hf, hu⟩ := (chkF_pw l).1 hc
    have k1 := takeF_ok a l hu
    have k2 := takeF_ok b l hu
    have m1 := cnt_mono (show a ≤ b by omega) l
    have m2 := cnt_le b l
    refine Ev.step (f := fun k => (free_Usable.f k l a).bind fun t => (free_Usable.f k l b).bind fun t2 => if t ≤ t2 then (if t2 ≤ (l.length : Int) then (if ((takeF a l).2.2 == (decide (t > 0))) = true then (if ((takeF b l).2.2 == (decide (t2 > 0))) = true then (if (takeF a l).2.2 = true then (some (decide ((takeF b l).1 ≤ (takeF a l).1))) else (some true)) else none) else none) else none) else none) (fun k => ?_) ?_
    · simp only [lunettelaw06_FreeOldest.j0, Option.bind_some, List.nil_append, free_Take.f, lunettelaw06_awake.f]
      rw [if_neg (by decide)]
      congr 1
      funext t
      congr 1
      funext t2
      rw [if_pos (by simp; omega), if_pos (by omega)]
      simp only [Option.bind_some]
      rw [if_pos (by simp; omega), if_pos (by omega)]
      simp only [Option.bind_some, if_true]
    · refine Ev.bind (f := fun k t => (free_Usable.f k l b).bind fun t2 => if t ≤ t2 then (if t2 ≤ (l.length : Int) then (if ((takeF a l).2.2 == (decide (t > 0))) = true then (if ((takeF b l).2.2 == (decide (t2 > 0))) = true then (if (takeF a l).2.2 = true then (some (decide ((takeF b l).1 ≤ (takeF a l).1))) else (some true)) else none) else none) else none) else none) (usable_ev l a (by omega)) ?_
      refine Ev.bind (f := fun k t2 => if ((cnt a l : Nat) : Int) ≤ t2 then (if t2 ≤ (l.length : Int) then (if ((takeF a l).2.2 == (decide (((cnt a l : Nat) : Int) > 0))) = true then (if ((takeF b l).2.2 == (decide (t2 > 0))) = true then (if (takeF a l).2.2 = true then (some (decide ((takeF b l).1 ≤ (takeF a l).1))) else (some true)) else none) else none) else none) else none) (usable_ev l b (by omega)) ?_
      refine Ev.congr (f := fun _ => some true) (fun k => ?_) (Ev.now _)
      rw [if_pos (by omega), if_pos (by omega), if_pos (by rw [k1]; simp), if_pos (by rw [k2]; simp)]
      by_cases h0 : 0 < cnt a l
      · rw [if_pos (takeF_yes a l hu h0).1, decide_eq_true (takeF_older (by omega) l hu h0)]
      · rw [takeF_no a l (by omega), if_neg (fun h => by cases h)]
theorem FreeOldest_pure (l : List S25) (_ : True) (a : Int) {P1 : Prop} (_ : P1) (b : Int) {P2 : Prop} (_ : P2) : ∃ k, lunettelaw06_FreeOldest.f k l a b = some true := FreeOldest_law l a b
end Go.Proofs.Ytmplcceghjofhaa.PF
