/- What Take takes: the first that may be used -/
import Derived.Test.YtmplcceghjofhaaPureF
namespace Go.Proofs.Ytmplcceghjofhaa.PF
open Go.RowKit Go.Proofs.YtmplcceghjofhaaW.PrintWords Go.Proofs.YtmplcceghjofhaaW.PrintLast Go.Proofs.YtmplcceghjofhaaW.PrintMore
set_option linter.unusedVariables false
set_option linter.unusedSimpArgs false
theorem cnt_cons' (o : Int) (x : S25) (r : List S25) : cnt o (x :: r) = (if x.f1 ≤ o then 1 else 0) + cnt o r := by
  unfold cnt
  rw [List.countP_cons]
  simp only [decide_eq_true_eq]
  omega
theorem takeF_no (o : Int) : ∀ l : List S25, cnt o l = 0 → takeF o l = (0, l, false)
  | [], _ => rfl
  | x :: r, h => by
    rw [cnt_cons'] at h
    have h1 : ¬ x.f1 ≤ o := fun h2 => by rw [if_pos h2] at h; omega
    rw [if_neg h1] at h
    unfold takeF
    rw [if_neg h1, takeF_no o r (by omega)]
theorem takeF_yes (o : Int) : ∀ l : List S25, up l → 0 < cnt o l → (takeF o l).2.2 = true ∧ (takeF o l).2.1.length + 1 = l.length ∧ cnt o (takeF o l).2.1 + 1 = cnt o l ∧ (∃ x ∈ l, x.f1 ≤ o ∧ x.f0 = (takeF o l).1) ∧ ∀ x ∈ (takeF o l).2.1, x.f1 ≤ o → (takeF o l).1 < x.f0
  | [], _, h => by simp [cnt] at h
  | x :: r, hu, h => by
    obtain ⟨h1, h2⟩ := List.pairwise_cons.1 hu
    by_cases hx : x.f1 ≤ o
    · unfold takeF
      rw [if_pos hx, cnt_cons', if_pos hx]
      exact ⟨rfl, by simp, by simp; omega, ⟨x, by simp, hx, rfl⟩, fun y hy _ => h1 y hy⟩
    · rw [cnt_cons', if_neg hx] at h
      obtain ⟨a, b, c, ⟨y, hy, hy1, hy2⟩, d⟩ := takeF_yes o r h2 (by omega)
      unfold takeF
      rw [if_neg hx, cnt_cons', if_neg hx]
      refine ⟨a, by simp; omega, by rw [cnt_cons', if_neg hx]; omega, ⟨y, List.mem_cons_of_mem _ hy, hy1, hy2⟩, fun z hz hzo => ?_⟩
      rcases List.mem_cons.1 hz with rfl | hz
      · exact absurd hzo hx
      · exact d z hz hzo
theorem cnt_le (o : Int) (l : List S25) : cnt o l ≤ l.length := List.countP_le_length
theorem cnt_mono {a b : Int} (h : a ≤ b) (l : List S25) : cnt a l ≤ cnt b l := by
  unfold cnt
  exact List.countP_mono_left (fun x _ hx => by simp at hx ⊢; omega)
theorem takeF_ok (o : Int) (l : List S25) (hu : up l) : (takeF o l).2.2 = decide ((cnt o l : Int) > 0) := by
  by_cases h : 0 < cnt o l
  · rw [(takeF_yes o l hu h).1, decide_eq_true (by omega)]
  · rw [takeF_no o l (by omega), decide_eq_false (by omega)]
theorem takeF_older {a b : Int} (hab : a ≤ b) : ∀ l : List S25, up l → 0 < cnt a l → (takeF b l).1 ≤ (takeF a l).1
  | [], _, h => by simp [cnt] at h
  | x :: r, hu, h => by
    obtain ⟨h1, h2⟩ := List.pairwise_cons.1 hu
    by_cases ha : x.f1 ≤ a
    · unfold takeF
      rw [if_pos ha, if_pos (by omega)]
      exact Int.le_refl _
    · rw [cnt_cons', if_neg ha] at h
      by_cases hb : x.f1 ≤ b
      · obtain ⟨_, _, _, ⟨y, hy, _, hy2⟩, _⟩ := takeF_yes a r h2 (by omega)
        have := h1 y hy
        unfold takeF
        rw [if_neg ha, if_pos hb]
        show x.f0 ≤ (takeF a r).1
        omega
      · have := takeF_older hab r h2 (by omega)
        unfold takeF
        rw [if_neg ha, if_neg hb]
        exact this
end Go.Proofs.Ytmplcceghjofhaa.PF
