/- Plain law: FreeEither -/
import Derived.Test.YtmplcceghjofhaaPureF
import Derived.Test.YtmplcceghjofhaaPF5
namespace Go.Proofs.Ytmplcceghjofhaa.PF
open Go.RowKit Go.Proofs.YtmplcceghjofhaaW.PrintWords Go.Proofs.YtmplcceghjofhaaW.PrintLast Go.Proofs.YtmplcceghjofhaaW.PrintMore
set_option linter.unusedVariables false
set_option linter.unusedSimpArgs false
theorem FreeEither_law (l : List S25) (p e q f : Int) : ∃ k, lunettelaw06_FreeEither.f k l p e q f = some true := by
  refine Ev.rounds ?_
  unfold lunettelaw06_FreeEither.f
  have hj : Ev (fun k => lunettelaw06_FreeEither.j0 k l true p e q f) true := by
    refine Ev.step (f := fun _ => some true) (fun k => ?_) (Ev.now _)
    simp only [lunettelaw06_FreeEither.j0, lunettelaw06_awake.f, Option.bind_some]
    rw [if_pos trivial]
  refine ev_if (fun h => hj) (fun h => ?_)
  refine Ev.bind (f := fun k t => if t = true then ((lunetteref06_Check.f k [⟨p, e⟩]).bind fun t290 => if t290 = true then ((lunetteref06_Check.f k [⟨q, f⟩]).bind fun t294 => lunettelaw06_FreeEither.j0 k l (!t294) p e q f) else lunettelaw06_FreeEither.j0 k l true p e q f) else lunettelaw06_FreeEither.j0 k l true p e q f) (rcheck_ev l (by omega)) (ev_if (fun hc => ?_) (fun _ => hj))
  refine Ev.bind (f := fun k t290 => if t290 = true then ((lunetteref06_Check.f k [⟨q, f⟩]).bind fun t294 => lunettelaw06_FreeEither.j0 k l (!t294) p e q f) else lunettelaw06_FreeEither.j0 k l true p e q f) (rcheck_ev [⟨p, e⟩] (by simp)) (ev_if (fun hp => ?_) (fun _ => hj))
  refine Ev.bind (f := fun k t294 => lunettelaw06_FreeEither.j0 k l (!t294) p e q f) (rcheck_ev [⟨q, f⟩] (by simp)) ?_
  cases hq : chkF [⟨q, f⟩] with
  | false => exact hj
  | true =>
    have hl : l.length ≤ 200 := by omega
    have l1 := putF_len p e l
    have l2 := putF_len q f l
    have l3 := putF_len q f (putF p e l)
    have l4 := putF_len p e (putF q f l)
    by_cases hpq : p = q
    · subst hpq
      have hs := same_ev (putF p f (putF p e l)) (putF p f l) (by omega)
      rw [putF_again, decide_eq_true rfl] at hs
      refine Ev.step (f := fun k => (lunetteref06_Same.f k (putF p f (putF p e l)) (putF p f l)).bind fun t => some t) (fun k => ?_) ?_
      · simp only [lunettelaw06_FreeEither.j0, Option.bind_some, List.nil_append, free_Put.f, lunettelaw06_awake.f]
        rw [if_neg (by decide), if_pos (by simp; omega), if_pos (by omega)]
        simp only [Option.bind_some]
        rw [if_pos (by omega)]
        simp only [Option.bind_some]
        rw [if_pos (by simp; omega), if_pos (by omega)]
        simp only [Option.bind_some]
        rw [if_pos (by omega)]
        simp only [Option.bind_some, if_true]
        rw [if_pos (by simp; omega)]
      · rw [putF_again]
        exact Ev.bind (f := fun _ t => some t) hs (Ev.now _)
    · have hs := same_ev (putF q f (putF p e l)) (putF p e (putF q f l)) (by omega)
      rw [decide_eq_true (putF_comm p e q f hpq l)] at hs
      refine Ev.step (f := fun k => (lunetteref06_Same.f k (putF q f (putF p e l)) (putF p e (putF q f l))).bind fun t => some t) (fun k => ?_) (Ev.bind (f := fun _ t => some t) hs (Ev.now _))
      simp only [lunettelaw06_FreeEither.j0, Option.bind_some, List.nil_append, free_Put.f, lunettelaw06_awake.f]
      rw [if_neg (by decide), if_pos (by simp; omega), if_pos (by omega)]
      simp only [Option.bind_some]
      rw [if_pos (by omega)]
      simp only [Option.bind_some]
      rw [if_pos (by simp; omega), if_pos (by omega)]
      simp only [Option.bind_some]
      rw [if_pos (by omega)]
      simp only [Option.bind_some]
      rw [if_neg hpq, if_pos trivial]
theorem FreeEither_pure (l : List S25) (_ : True) (p e : Int) (_ : True) (q f : Int) (_ : True) : ∃ k, lunettelaw06_FreeEither.f k l p e q f = some true := FreeEither_law l p e q f
end Go.Proofs.Ytmplcceghjofhaa.PF
