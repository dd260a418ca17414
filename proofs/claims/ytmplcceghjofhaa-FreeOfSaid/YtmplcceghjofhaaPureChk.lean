/- free.Check answers whether a list may be -/
import Derived.Test.YtmplcceghjofhaaHDefs
import Derived.Test.YtmplcceghjofhaaPF2
namespace Go.Proofs.Ytmplcceghjofhaa.PF
open Go.RowKit Go.Proofs.YtmplcceghjofhaaW.PrintWords Go.Proofs.YtmplcceghjofhaaW.PrintLast Go.Proofs.YtmplcceghjofhaaW.PrintMore
set_option linter.unusedVariables false
set_option linter.unusedSimpArgs false
theorem down {P : Nat → Prop} {n : Nat} (hs : ∀ i, i < n → P (i + 1) → P i) (he : P n) : ∀ i, i ≤ n → P i := by
  intro i hi
  obtain ⟨d, hd⟩ : ∃ d, d = n - i := ⟨_, rfl⟩
  induction d generalizing i with
  | zero => obtain rfl : i = n := by omega
            exact he
  | succ d ih => exact hs i (by omega) (ih (i + 1) (by omega) (by omega))
theorem w1 {i : Nat} (h : i ≤ 1000000000000000) : wrap64 ((i : Int) + 1) = ((i + 1 : Nat) : Int) := by unfold wrap64; omega
theorem wm {i : Nat} (h : i + 1 ≤ 1000000000000000) : wrap64 (((i + 1 : Nat) : Int) - 1) = (i : Int) := by unfold wrap64; omega
theorem w0 {x : Int} (h0 : -9223372036854775808 ≤ x) (h : x < 9223372036854775808) : wrap64 x = x := by unfold wrap64; omega
theorem ev_if {α : Type} {c : Prop} [Decidable c] {f g : Nat → Option α} {r : α} (h : c → Ev f r) (h2 : ¬ c → Ev g r) : Ev (fun k => if c then f k else g k) r := by
  by_cases hc : c
  · simpa only [if_pos hc] using h hc
  · simpa only [if_neg hc] using h2 hc
theorem ev_some {α : Type} {a r : α} (h : a = r) : Ev (fun _ => some a) r := by subst h; exact Ev.now _
theorem ev_eq {α : Type} {g : Nat → Option α} {a r : α} (h : Ev g a) (e : a = r) : Ev g r := by subst e; exact h
theorem rd_at {l : List S25} {i : Nat} (h : i < l.length) : rd_T25 l (i : Int) = l[i] := by simp [rd_T25, h]
/-- A page's and an epoch's bounds. -/
def fit (x : S25) : Bool := decide (2 ≤ x.f0 ∧ x.f0 ≤ 4294967295 ∧ 0 ≤ x.f1 ∧ x.f1 ≤ 4294967295)
/-- May the j-th stand where it stands? -/
def okB (l : List S25) (j : Nat) : Bool := fit (l.getD j z25) && (decide (j = 0) || decide ((l.getD (j - 1) z25).f0 < (l.getD j z25).f0))
theorem okB_tail (x : S25) (r : List S25) (j : Nat) : okB (x :: r) (j + 2) = okB r (j + 1) := by
  unfold okB
  simp
theorem chkF_iff (l : List S25) : chkF l = true ↔ ∀ j, j < l.length → okB l j = true := by
  induction l with
  | nil => simp [chkF]
  | cons x r ih =>
    cases r with
    | nil =>
      constructor
      · intro h j hj
        obtain rfl : j = 0 := by simpa using hj
        unfold chkF at h
        unfold okB fit
        simpa using h
      · intro h
        have h0 := h 0 (by simp)
        unfold okB fit at h0
        unfold chkF
        simpa using h0
    | cons y r =>
      have e : chkF (x :: y :: r) = (fit x && decide (x.f0 < y.f0) && chkF (y :: r)) := rfl
      rw [e, Bool.and_eq_true, Bool.and_eq_true, ih]
      constructor
      · rintro ⟨⟨h1, h2⟩, h3⟩ j hj
        match j, hj with
        | 0, _ => unfold okB; simpa using h1
        | 1, _ =>
          have h4 := h3 0 (by simp)
          unfold okB at h4 ⊢
          simp at h4 h2 ⊢
          exact ⟨h4, h2⟩
        | j + 2, hj =>
          rw [okB_tail]
          exact h3 (j + 1) (by simpa using hj)
      · intro h
        refine ⟨⟨?_, ?_⟩, fun j hj => ?_⟩
        · have := h 0 (by simp)
          unfold okB at this
          simpa using this
        · have := h 1 (by simp)
          unfold okB at this
          simp at this
          simpa using this.2
        · cases j with
          | zero =>
            have := h 1 (by simp)
            unfold okB at this ⊢
            simp at this ⊢
            exact this.1
          | succ j =>
            rw [← okB_tail x]
            exact h (j + 2) (by simpa using hj)
theorem chkF_all (l : List S25) : chkF l = (List.range l.length).all (okB l) := by
  rw [Bool.eq_iff_iff, chkF_iff, List.all_eq_true]
  simp
theorem fcheck_l0 (l : List S25) (hl : l.length ≤ 100000000000000) : ∀ i, i ≤ l.length → Ev (fun k => free_Check.l0 k l l (l.length : Int) (i : Int)) (((List.range l.length).drop i).all (okB l)) := by
  refine down (fun i hi ih => ?_) ?_
  · have hg : (List.range l.length).drop i = i :: (List.range l.length).drop (i + 1) := by
      rw [List.drop_eq_getElem_cons (by simpa using hi)]
      simp
    rw [hg, List.all_cons]
    have hr := rd_at hi
    have hgd : l.getD i z25 = l[i] := by simp [hi]
    refine Ev.step (f := fun k => if l[i].f0 < 2 then some false else if l[i].f0 > 4294967295 then some false else if l[i].f1 < 0 then some false else if l[i].f1 > 4294967295 then some false else if ((i : Nat) : Int) > 0 then (if ((l.getD (i - 1) z25).f0) ≥ l[i].f0 then some false else free_Check.l0 k l l (l.length : Int) ((i + 1 : Nat) : Int)) else free_Check.l0 k l l (l.length : Int) ((i + 1 : Nat) : Int)) (fun k => ?_) ?_
    · simp only [free_Check.l0]
      rw [if_pos (by omega), if_pos (by omega), if_pos (by omega), hr, w1 (by omega)]
      by_cases h0 : ((i : Nat) : Int) > 0
      · obtain ⟨j, rfl⟩ : ∃ j, i = j + 1 := ⟨i - 1, by omega⟩
        rw [wm (by omega), if_pos (show (0 : Int) ≤ (j : Int) by omega), if_pos (show (j : Int) < (l.length : Int) by omega)]
        rfl
      · simp only [if_neg h0]
    · have hf : ∀ b : Bool, fit l[i] = b → okB l i = (b && (decide (i = 0) || decide ((l.getD (i - 1) z25).f0 < l[i].f0))) := fun b hb => by unfold okB; rw [hgd, hb]
      refine ev_if (fun h1 => ev_some ?_) (fun h1 => ev_if (fun h2 => ev_some ?_) (fun h2 => ev_if (fun h3 => ev_some ?_) (fun h3 => ev_if (fun h4 => ev_some ?_) (fun h4 => ?_))))
      · rw [hf false (by unfold fit; simp; omega)]; rfl
      · rw [hf false (by unfold fit; simp; omega)]; rfl
      · rw [hf false (by unfold fit; simp; omega)]; rfl
      · rw [hf false (by unfold fit; simp; omega)]; rfl
      · rw [hf true (by unfold fit; simp; omega), Bool.true_and]
        refine ev_if (fun h5 => ev_if (fun h6 => ev_some ?_) (fun h6 => ev_eq ih ?_)) (fun h5 => ev_eq ih ?_)
        · have : decide ((l.getD (i - 1) z25).f0 < l[i].f0) = false := by simpa using h6
          rw [this, decide_eq_false (by omega)]; rfl
        · have : decide ((l.getD (i - 1) z25).f0 < l[i].f0) = true := by simpa using h6
          rw [this, Bool.or_true, Bool.true_and]
        · rw [decide_eq_true (show i = 0 by omega), Bool.true_or, Bool.true_and]
  · refine Ev.step (f := fun _ => some true) (fun k => ?_) (ev_some (by rw [List.drop_eq_nil_of_le (by simp)]; rfl))
    simp only [free_Check.l0]
    rw [if_neg (by omega)]
theorem fcheck_ev (l : List S25) (hl : l.length ≤ 100000000000000) : Ev (fun k => free_Check.f k l) (chkF l) := by
  unfold free_Check.f
  rw [chkF_all]
  exact ev_eq (fcheck_l0 l hl 0 (Nat.zero_le _)) (by rw [List.drop_zero])
end Go.Proofs.Ytmplcceghjofhaa.PF
