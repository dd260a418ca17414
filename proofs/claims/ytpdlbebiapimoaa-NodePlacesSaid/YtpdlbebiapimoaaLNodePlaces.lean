/- Plain law: NodePlaces -/
import Derived.Test.YtpdlbebiapimoaaPureB
import Derived.Test.YtpdlbebiapimoaaPureC
import Derived.Test.YtpdlbebiapimoaaPN22
namespace Go.Proofs.Ytpdlbebiapimoaa.PN
open Go.RowKit Go.Proofs.YtpdlbebiapimoaaW.PrintWords Go.Proofs.YtpdlbebiapimoaaW.PrintLast Go.Proofs.YtpdlbebiapimoaaW.PrintMore
set_option linter.unusedVariables false
set_option linter.unusedSimpArgs false
theorem find_eq (b : Bool) (ks vs : List ByteArray) (cs : List Int) (key : ByteArray) (hr : rising ks = true) (hl : ks.length ≤ 100000) :
    node_Find.f b ks vs cs key = some ((if isin ks key && !b then (below ks key : Int) + 1 else (below ks key : Int)), isin ks key) := by
  unfold node_Find.f
  rw [if_pos ⟨hr, hl⟩]
theorem isin_lt {l : List ByteArray} (h : rising l = true) (key : ByteArray) (hi : isin l key = true) : below l key < l.length := by
  obtain ⟨x, hx, _⟩ := (isin_iff h key).1 hi
  exact (List.getElem?_eq_some_iff.1 hx).1
theorem isin_of {l : List ByteArray} (key : ByteArray) (i : Nat) (hi : i < l.length) (h : l[i].toList = key.toList) : isin l key = true := by
  unfold isin
  exact List.any_eq_true.2 ⟨l[i], List.getElem_mem _, by simpa using h⟩
theorem rising_lt {l : List ByteArray} (h : rising l = true) : ∀ (j i : Nat) (hj : j < i) (hi : i < l.length), slt (l[j]'(by omega)) l[i] = true := by
  induction l with
  | nil => intro j i hj hi; simp at hi
  | cons a r ih =>
    intro j i hj hi
    match i, hj, hi with
    | i + 1, hj, hi =>
      cases j with
      | zero => exact rising_head h _ (by simp)
      | succ j => exact ih (rising_tail h) j i (by omega) (by simpa using hi)
theorem at_below {l : List ByteArray} (h : rising l = true) (key : ByteArray) (i : Nat) (hi : i < l.length) (he : l[i].toList = key.toList) : i = below l key := by
  have h1 := below_iff h key i _ (List.getElem?_eq_getElem hi)
  rw [slt_congr he, slt_irrefl] at h1
  have h2 : below l key ≤ i := by have := of_decide_eq_false h1.symm; omega
  rcases Nat.lt_or_ge (below l key) i with hlt | hge
  · exfalso
    have h3 := below_iff h key (below l key) _ (List.getElem?_eq_getElem (by omega))
    rw [show decide (below l key < below l key) = false by simp] at h3
    have h4 := rising_lt h (below l key) i hlt hi
    rw [slt_congr2 he, h3] at h4
    cases h4
  · omega
theorem NodePlaces_pure (b : Bool) (ks vs : List ByteArray) (cs : List Int) (key : ByteArray) (_ : key.size ≤ maxLen) : ∃ k, lunettelaw05_NodePlaces.f k b ks vs cs key = some true := by
  refine Ev.rounds ?_
  unfold lunettelaw05_NodePlaces.f
  refine Ev.bind awake_ev ?_
  simp only [if_true]
  have haw : Ev (fun k => lunettelaw05_NodePlaces.j0 k key true b ks vs cs) true :=
    Ev.step (f := fun k => (lunettelaw05_awake.f k).bind fun t => some t) (fun k => by simp only [lunettelaw05_NodePlaces.j0]; rw [if_pos trivial]) (Ev.bind (f := fun _ t => some t) awake_ev (Ev.now _))
  refine Ev.bind (few_ev b ks vs cs) (ev_if (fun hf => ?_) (fun _ => haw))
  obtain ⟨h1, h2, h3, h4, h5⟩ := fewS_true hf
  refine Ev.bind (Check_ev b ks vs cs (by omega) (by omega) (by omega) (fun s hs => by have := h4 s hs; omega)) (ev_if (fun h0 => ?_) (fun _ => haw))
  by_cases hks : key.size ≤ 300
  · have e : decide ((key.size : Int) > 300) = false := by simp; omega
    rw [e]
    obtain ⟨_, _, hr, _⟩ := chk_zero h0
    have hfe := find_eq b ks vs cs key hr (by omega)
    have hbl := below_le ks key
    have hat : (isin ks key && !b) = true → below ks key < ks.length := fun h => isin_lt hr key (by simp at h; exact h.1)
    have hloop : ∀ i, i ≤ ks.length → Ev (fun k => lunettelaw05_NodePlaces.l0 k key (if isin ks key && !b then (below ks key : Int) + 1 else (below ks key : Int)) (isin ks key) (i : Int) b ks vs cs) true := by
      refine down (fun i hi ih => ?_) ?_
      · have hB := Below_ev ks[i] key (by have := h4 ks[i] (List.getElem_mem _); omega)
        have hbi := below_iff hr key i _ (List.getElem?_eq_getElem hi)
        have hne : isin ks key = false → ¬ (ks[i].toList = key.toList) := fun h e => by rw [isin_of key i hi e] at h; cases h
        generalize hA : (if isin ks key && !b then (below ks key : Int) + 1 else (below ks key : Int)) = A at ih ⊢
        refine Ev.step (f := fun k => (lunetteref01_Below.f k ks[i] key).bind fun t316 => (if t316 = true then (if (true != (decide ((i : Int) < A))) = true then (none) else (if isin ks key = true then (lunettelaw05_NodePlaces.l0 k key A (isin ks key) ((i + 1 : Nat) : Int) b ks vs cs) else (if ks[i].toList = key.toList then (none) else (lunettelaw05_NodePlaces.l0 k key A (isin ks key) ((i + 1 : Nat) : Int) b ks vs cs)))) else (if b = true then (if (false != (decide ((i : Int) < A))) = true then (none) else (if isin ks key = true then (lunettelaw05_NodePlaces.l0 k key A (isin ks key) ((i + 1 : Nat) : Int) b ks vs cs) else (if ks[i].toList = key.toList then (none) else (lunettelaw05_NodePlaces.l0 k key A (isin ks key) ((i + 1 : Nat) : Int) b ks vs cs)))) else (if ((ks[i].toList == key.toList) != (decide ((i : Int) < A))) = true then (none) else (if isin ks key = true then (lunettelaw05_NodePlaces.l0 k key A (isin ks key) ((i + 1 : Nat) : Int) b ks vs cs) else (if ks[i].toList = key.toList then (none) else (lunettelaw05_NodePlaces.l0 k key A (isin ks key) ((i + 1 : Nat) : Int) b ks vs cs))))))) (fun k => ?_) (Ev.bind hB ?_)
        · simp only [lunettelaw05_NodePlaces.l0]
          rw [if_pos (by omega), if_pos (by omega), rdS_at hi, w1 (by omega)]
        have hin : Ev (fun k => (if isin ks key = true then (lunettelaw05_NodePlaces.l0 k key A (isin ks key) ((i + 1 : Nat) : Int) b ks vs cs) else (if ks[i].toList = key.toList then (none) else (lunettelaw05_NodePlaces.l0 k key A (isin ks key) ((i + 1 : Nat) : Int) b ks vs cs)))) true := by
          refine ev_if (fun _ => ih) (fun h => ?_)
          exact Ev.congr (fun k => if_neg (hne (Bool.eq_false_iff.2 h))) ih
        cases hs : slt ks[i] key with
        | true =>
          simp only [if_true]
          rw [hs] at hbi
          have hib : i < below ks key := of_decide_eq_true hbi.symm
          have hd : decide ((i : Int) < A) = true := by rw [← hA]; split <;> simp <;> omega
          refine Ev.congr (fun k => if_neg ?_) hin
          rw [hd]; decide
        | false =>
          simp only [Bool.false_eq_true, if_false]
          rw [hs] at hbi
          have hib : below ks key ≤ i := by have := of_decide_eq_false hbi.symm; omega
          cases b with
          | true =>
            simp only [if_true]
            have hd : decide ((i : Int) < A) = false := by rw [← hA]; simp; omega
            refine Ev.congr (fun k => if_neg ?_) hin
            rw [hd]; decide
          | false =>
            simp only [Bool.false_eq_true, if_false]
            have hd : ((ks[i].toList == key.toList) != (decide ((i : Int) < A))) = false := by
              by_cases he : ks[i].toList = key.toList
              · have hi2 := isin_of key i hi he
                have hi3 := at_below hr key i hi he
                rw [hi2] at hA
                simp at hA
                have : decide ((i : Int) < A) = true := by simp; omega
                rw [this, beq_iff_eq.2 he]; rfl
              · have : decide ((i : Int) < A) = false := by
                  cases hii : isin ks key with
                  | false => rw [hii] at hA; simp at hA; simp; omega
                  | true =>
                    obtain ⟨x, hx, hxe⟩ := (isin_iff hr key).1 hii
                    have hne2 : i ≠ below ks key := fun e => by
                      subst e
                      rw [List.getElem?_eq_getElem hi] at hx
                      exact he (by rw [Option.some.inj hx]; exact hxe)
                    rw [hii] at hA; simp at hA; simp; omega
                rw [this, beq_eq_false_iff_ne.2 he]; rfl
            exact Ev.congr (fun k => if_neg (by rw [hd]; decide)) hin
      · refine Ev.step (f := fun k => some true) (fun k => ?_) (Ev.now _)
        simp only [lunettelaw05_NodePlaces.l0]
        rw [if_neg (by omega)]
    refine Ev.step (f := fun k => lunettelaw05_NodePlaces.j1 k key (if isin ks key && !b then (below ks key : Int) + 1 else (below ks key : Int)) (isin ks key) false b ks vs cs) (fun k => ?_) (Ev.step (f := fun k => lunettelaw05_NodePlaces.l0 k key (if isin ks key && !b then (below ks key : Int) + 1 else (below ks key : Int)) (isin ks key) ((0 : Nat) : Int) b ks vs cs) (fun k => by simp only [lunettelaw05_NodePlaces.j1]; rw [if_neg (by decide)]; rfl) (hloop 0 (Nat.zero_le _)))
    simp only [lunettelaw05_NodePlaces.j0]
    rw [if_neg (by decide), hfe]
    simp only [Option.bind_some]
    have q1 : ¬ ((if isin ks key && !b then (below ks key : Int) + 1 else (below ks key : Int)) < 0) := by split <;> omega
    have q2 : decide ((if isin ks key && !b then (below ks key : Int) + 1 else (below ks key : Int)) > (ks.length : Int)) = false := by
      rw [decide_eq_false_iff_not]
      split
      · rename_i h; have := hat h; omega
      · omega
    rw [if_neg q1, q2]
  · have e : decide ((key.size : Int) > 300) = true := by simp; omega
    rw [e]
    exact haw

end Go.Proofs.Ytpdlbebiapimoaa.PN
