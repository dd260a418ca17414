/- Plain law: FreePuts -/
import Derived.Test.YtmplcceghjofhaaPureF
import Derived.Test.YtmplcceghjofhaaPF4
namespace Go.Proofs.Ytmplcceghjofhaa.PF
open Go.RowKit Go.Proofs.YtmplcceghjofhaaW.PrintWords Go.Proofs.YtmplcceghjofhaaW.PrintLast Go.Proofs.YtmplcceghjofhaaW.PrintMore
set_option linter.unusedVariables false
set_option linter.unusedSimpArgs false
theorem puts_l0 (l : List S25) (p e o : Int) (hl : l.length ≤ 200) (hc : chkF l = true) (hf : fit ⟨p, e⟩ = true) : ∀ i, i ≤ l.length → ∀ n : Nat, n ≤ i → n + cnt o (l.drop i) = cnt o l →
    Ev (fun k => lunettelaw06_FreePuts.l0 k l p e o (putF p e l) (takeF o l).1 (takeF o l).2.1 (takeF o l).2.2 (takeF o l).1 (takeF o l).2.1 (takeF o l).2.2 (n : Int) (i : Int)) true := by
  refine down (fun i hi ih n hn hcn => ?_) (fun n hn hcn => ?_)
  · rw [cnt_cons o hi] at hcn
    by_cases h : l[i].f1 ≤ o
    · rw [if_pos h] at hcn
      refine Ev.step (fun k => ?_) (ih (n + 1) (by omega) (by omega))
      simp only [lunettelaw06_FreePuts.l0]
      rw [if_pos (by omega), if_pos (by omega), rd_at hi, if_pos h, w1 (by omega), w1 (by omega)]
    · rw [if_neg h] at hcn
      refine Ev.step (fun k => ?_) (ih n (by omega) (by omega))
      simp only [lunettelaw06_FreePuts.l0]
      rw [if_pos (by omega), if_pos (by omega), rd_at hi, if_neg h, w1 (by omega)]
  · rw [List.drop_length] at hcn
    have hn2 : cnt o l = n := by simpa [cnt] using hcn.symm
    have hpl := putF_len p e l
    have htl := (takeF_sub o l).length_le
    have e1 := rput_ev l p e (by omega) ((chkF_pw l).1 hc).2
    have e2 := same_ev (putF p e l) (putF p e l) (by omega)
    have e3 := fcheck_ev (putF p e l) (by omega)
    rw [chkF_putF hc hf] at e3
    have e4 := same_ev (takeF o l).2.1 (takeF o l).2.1 (by omega)
    have e5 := fcheck_ev (takeF o l).2.1 (by omega)
    rw [chkF_sub hc (takeF_sub o l)] at e5
    have e6 := usable_ev l o (by omega)
    rw [hn2] at e6
    rw [decide_eq_true rfl] at e2 e4
    refine Ev.step (f := fun k => (lunetteref06_Put.f k l p e).bind fun t => (lunetteref06_Same.f k (putF p e l) t).bind fun t2 => if t2 = true then ((free_Check.f k (putF p e l)).bind fun t3 => if t3 = true then ((lunetteref06_Same.f k (takeF o l).2.1 (takeF o l).2.1).bind fun t4 => if t4 = true then ((free_Check.f k (takeF o l).2.1).bind fun t5 => if t5 = true then ((free_Usable.f k l o).bind fun t6 => some (t6 == (n : Int))) else none) else none) else none) else none) (fun k => ?_) ?_
    · simp only [lunettelaw06_FreePuts.l0, lunettelaw06_awake.f, Option.bind_some]
      rw [if_neg (by omega), if_pos trivial]
      simp only [if_true, beq_self_eq_true]
    · refine Ev.bind (f := fun k t => (lunetteref06_Same.f k (putF p e l) t).bind fun t2 => if t2 = true then ((free_Check.f k (putF p e l)).bind fun t3 => if t3 = true then ((lunetteref06_Same.f k (takeF o l).2.1 (takeF o l).2.1).bind fun t4 => if t4 = true then ((free_Check.f k (takeF o l).2.1).bind fun t5 => if t5 = true then ((free_Usable.f k l o).bind fun t6 => some (t6 == (n : Int))) else none) else none) else none) else none) e1 ?_
      refine Ev.bind (f := fun k t2 => if t2 = true then ((free_Check.f k (putF p e l)).bind fun t3 => if t3 = true then ((lunetteref06_Same.f k (takeF o l).2.1 (takeF o l).2.1).bind fun t4 => if t4 = true then ((free_Check.f k (takeF o l).2.1).bind fun t5 => if t5 = true then ((free_Usable.f k l o).bind fun t6 => some (t6 == (n : Int))) else none) else none) else none) else none) e2 ?_
      simp only [if_true]
      refine Ev.bind (f := fun k t3 => if t3 = true then ((lunetteref06_Same.f k (takeF o l).2.1 (takeF o l).2.1).bind fun t4 => if t4 = true then ((free_Check.f k (takeF o l).2.1).bind fun t5 => if t5 = true then ((free_Usable.f k l o).bind fun t6 => some (t6 == (n : Int))) else none) else none) else none) e3 ?_
      simp only [if_true]
      refine Ev.bind (f := fun k t4 => if t4 = true then ((free_Check.f k (takeF o l).2.1).bind fun t5 => if t5 = true then ((free_Usable.f k l o).bind fun t6 => some (t6 == (n : Int))) else none) else none) e4 ?_
      simp only [if_true]
      refine Ev.bind (f := fun k t5 => if t5 = true then ((free_Usable.f k l o).bind fun t6 => some (t6 == (n : Int))) else none) e5 ?_
      simp only [if_true]
      exact Ev.bind (f := fun _ t6 => some (t6 == (n : Int))) e6 (ev_some (by simp))
theorem FreePuts_law (l : List S25) (p e o : Int) : ∃ k, lunettelaw06_FreePuts.f k l p e o = some true := by
  refine Ev.rounds ?_
  unfold lunettelaw06_FreePuts.f
  have hj : ¬ (l.length : Int) > 200 → Ev (fun k => lunettelaw06_FreePuts.j0 k l p e o true) true := fun h => by
    refine Ev.step (f := fun k => (free_Check.f k l).bind fun t => (lunetteref06_Check.f k l).bind fun t2 => some (t == t2)) (fun k => ?_) ?_
    · simp only [lunettelaw06_FreePuts.j0, lunettelaw06_awake.f, Option.bind_some]
      rw [if_pos trivial, if_pos trivial, if_neg h]
    · refine Ev.bind (f := fun k t => (lunetteref06_Check.f k l).bind fun t2 => some (t == t2)) (fcheck_ev l (by omega)) ?_
      exact Ev.bind (f := fun _ t2 => some (chkF l == t2)) (rcheck_ev l (by omega)) (ev_some (by simp))
  refine ev_if (fun h => ?_) (fun h => ?_)
  · refine Ev.step (f := fun _ => some true) (fun k => ?_) (Ev.now _)
    simp only [lunettelaw06_FreePuts.j0, lunettelaw06_awake.f, Option.bind_some]
    rw [if_pos trivial, if_pos trivial, if_pos h]
  · refine Ev.bind (f := fun k t => if t = true then ((lunetteref06_Check.f k [⟨p, e⟩]).bind fun t152 => lunettelaw06_FreePuts.j0 k l p e o (!t152)) else lunettelaw06_FreePuts.j0 k l p e o true) (rcheck_ev l (by omega)) (ev_if (fun hc => ?_) (fun _ => hj h))
    refine Ev.bind (f := fun k t152 => lunettelaw06_FreePuts.j0 k l p e o (!t152)) (rcheck_ev [⟨p, e⟩] (by simp)) ?_
    cases hf : chkF [⟨p, e⟩] with
    | false => exact hj h
    | true =>
      have hf2 : fit ⟨p, e⟩ = true := ((chkF_pw _).1 hf).1 _ (by simp)
      have hl : l.length ≤ 200 := by omega
      refine Ev.step (f := fun k => (lunetteref06_Take.f k l o).bind fun bt => lunettelaw06_FreePuts.l0 k l p e o (putF p e l) (takeF o l).1 (takeF o l).2.1 (takeF o l).2.2 bt.1 bt.2.1 bt.2.2 0 0) (fun k => ?_) ?_
      · simp only [lunettelaw06_FreePuts.j0, Option.bind_some, List.nil_append, free_Put.f, free_Take.f]
        rw [if_neg (by decide), if_pos (by simp; omega), if_pos (by omega)]
        simp only [Option.bind_some]
        rw [if_pos (by simp; omega), if_pos (by omega)]
        simp only [Option.bind_some]
      · refine Ev.bind (f := fun k bt => lunettelaw06_FreePuts.l0 k l p e o (putF p e l) (takeF o l).1 (takeF o l).2.1 (takeF o l).2.2 bt.1 bt.2.1 bt.2.2 0 0) (rtake_ev l o (by omega)) ?_
        exact puts_l0 l p e o hl hc hf2 0 (Nat.zero_le _) 0 (Nat.le_refl _) (by simp)
theorem FreePuts_pure (l : List S25) (_ : True) (p : Int) {P1 : Prop} (_ : P1) (e : Int) {P2 : Prop} (_ : P2) (o : Int) {P3 : Prop} (_ : P3) : ∃ k, lunettelaw06_FreePuts.f k l p e o = some true := FreePuts_law l p e o
end Go.Proofs.Ytmplcceghjofhaa.PF
