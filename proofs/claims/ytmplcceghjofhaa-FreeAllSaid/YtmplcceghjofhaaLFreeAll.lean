/- Plain law: FreeAll -/
import Derived.Test.YtmplcceghjofhaaPureTake
import Derived.Test.YtmplcceghjofhaaPF4
namespace Go.Proofs.Ytmplcceghjofhaa.PF
open Go.RowKit Go.Proofs.YtmplcceghjofhaaW.PrintWords Go.Proofs.YtmplcceghjofhaaW.PrintLast Go.Proofs.YtmplcceghjofhaaW.PrintMore
set_option linter.unusedVariables false
set_option linter.unusedSimpArgs false
theorem all_l0 (l : List S25) (o : Int) (hl : l.length ≤ 100) : ∀ i, i ≤ cnt o l → ∀ (was : Int) (left : List S25), up left → cnt o left + i = cnt o l → left.length + i = l.length → (∀ x ∈ left, x.f1 ≤ o → was < x.f0) →
    Ev (fun k => lunettelaw06_FreeAll.l0 k l o ((cnt o l : Nat) : Int) was left (i : Int)) true := by
  have hcl := cnt_le o l
  refine down (fun i hi ih was left hu hc hn hw => ?_) (fun was left hu hc hn hw => ?_)
  · obtain ⟨a, b, c, ⟨y, hy, hy1, hy2⟩, d⟩ := takeF_yes o left hu (by omega)
    have hwas : was < (takeF o left).1 := by rw [← hy2]; exact hw y hy hy1
    have hA := ih (takeF o left).1 (takeF o left).2.1 (hu.sublist (takeF_sub o left)) (by omega) (by omega) d
    refine Ev.step (fun k => ?_) hA
    simp only [lunettelaw06_FreeAll.l0, free_Take.f]
    rw [if_pos (by omega), if_pos (by omega)]
    simp only [Option.bind_some]
    rw [if_pos a, if_neg (by omega), if_pos (by rw [w0 (by omega) (by omega)]; omega), w1 (by omega)]
  · have h0 := takeF_no o left (by omega)
    have hu6 := usable_ev left o (by omega)
    rw [show cnt o left = 0 by omega] at hu6
    refine Ev.step (f := fun k => (free_Usable.f k left o).bind fun t => some (t == 0)) (fun k => ?_) (Ev.bind (f := fun _ t => some (t == 0)) hu6 (ev_some rfl))
    simp only [lunettelaw06_FreeAll.l0, free_Take.f, lunettelaw06_awake.f]
    rw [if_neg (by omega), if_pos (by omega), h0]
    simp only [Option.bind_some]
    rw [if_pos trivial, if_neg (by decide), if_pos trivial, if_pos (by rw [w0 (by omega) (by omega)]; omega)]
theorem FreeAll_law (l : List S25) (o : Int) : ∃ k, lunettelaw06_FreeAll.f k l o = some true := by
  refine Ev.rounds ?_
  unfold lunettelaw06_FreeAll.f
  have hj : Ev (fun k => lunettelaw06_FreeAll.j0 k l o true) true := by
    refine Ev.step (f := fun _ => some true) (fun k => ?_) (Ev.now _)
    simp only [lunettelaw06_FreeAll.j0, lunettelaw06_awake.f, Option.bind_some]
    rw [if_pos trivial]
  refine ev_if (fun h => hj) (fun h => ?_)
  refine Ev.bind (f := fun k t => lunettelaw06_FreeAll.j0 k l o (!t)) (rcheck_ev l (by omega)) ?_
  cases hc : chkF l with
  | false => exact hj
  | true =>
    obtain ⟨hf, hu⟩ := (chkF_pw l).1 hc
    refine Ev.step (f := fun k => (free_Usable.f k l o).bind fun t => lunettelaw06_FreeAll.l0 k l o t 0 l 0) (fun k => ?_) (Ev.bind (f := fun k t => lunettelaw06_FreeAll.l0 k l o t 0 l 0) (usable_ev l o (by omega)) ?_)
    · simp only [lunettelaw06_FreeAll.j0, Option.bind_some, List.nil_append]
      rw [if_neg (by decide)]
      congr 1
      funext t
      rw [if_pos (by simp; omega)]
    · refine all_l0 l o (by omega) 0 (Nat.zero_le _) 0 l hu (by omega) (by omega) (fun x hx _ => ?_)
      have := hf x hx
      unfold fit at this
      have := of_decide_eq_true this
      omega
theorem FreeAll_pure (l : List S25) (_ : True) (o : Int) {P1 : Prop} (_ : P1) : ∃ k, lunettelaw06_FreeAll.f k l o = some true := FreeAll_law l o
end Go.Proofs.Ytmplcceghjofhaa.PF
