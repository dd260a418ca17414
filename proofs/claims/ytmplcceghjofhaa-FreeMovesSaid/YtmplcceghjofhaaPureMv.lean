/- Pages that are taken and put back stay a disk's, each once: lists alone -/
import Derived.Test.YtmplcceghjofhaaPureF
import Derived.Test.YtmplcceghjofhaaHCov0
namespace Go.Proofs.Ytmplcceghjofhaa.PF
open Go.RowKit Go.Proofs.YtmplcceghjofhaaW.PrintWords Go.Proofs.YtmplcceghjofhaaW.PrintLast Go.Proofs.YtmplcceghjofhaaW.PrintMore
set_option linter.unusedVariables false
set_option linter.unusedSimpArgs false
/-- The pages from 2 on, below N. -/
def rng (N : Nat) : List Int := (List.range (N - 2)).map (fun (i : Nat) => (i : Int) + 2)
theorem rng_len (N : Nat) : (rng N).length = N - 2 := by simp [rng]
theorem rng_succ (N : Nat) (h : 2 ≤ N) : rng (N + 1) = rng N ++ [(N : Int)] := by
  unfold rng
  rw [show N + 1 - 2 = (N - 2) + 1 by omega, List.range_succ, List.map_append]
  simp; omega
theorem rng_mem {N : Nat} {p : Int} (h : p ∈ rng N) : 2 ≤ p ∧ p < N := by
  unfold rng at h
  rw [List.mem_map] at h
  obtain ⟨i, hi, rfl⟩ := h
  rw [List.mem_range] at hi
  omega
theorem rng_nodup (N : Nat) : (rng N).Nodup := by
  unfold rng
  rw [List.Nodup, List.pairwise_map]
  refine List.Pairwise.imp ?_ (List.nodup_range (n := N - 2))
  intro a b h e
  have e2 : (a : Int) + 2 = (b : Int) + 2 := e
  exact h (by omega)
/-- Free pages and used ones: a disk's, each once. -/
structure Mv (N : Nat) (l : List S25) (us : List Int) : Prop where
  sorted : chkF l = true
  ep : ∀ x ∈ l, x.f1 ≤ 4
  perm : (pgs l ++ us).Perm (rng N)
theorem mv_start (N : Nat) : Mv N [] (rng N) := ⟨rfl, fun _ h => (by cases h), List.Perm.refl _⟩
theorem mv_take {N : Nat} {x : S25} {r : List S25} {us : List Int} (h : Mv N (x :: r) us) : Mv N r (us ++ [x.f0]) where
  sorted := chkF_sub h.sorted (List.sublist_cons_self _ _)
  ep := fun y hy => h.ep y (List.mem_cons_of_mem _ hy)
  perm := by
    refine List.Perm.trans ?_ h.perm
    show (pgs r ++ (us ++ [x.f0])).Perm (x.f0 :: (pgs r ++ us))
    rw [← List.append_assoc]
    exact (List.perm_append_comm (l₁ := pgs r ++ us) (l₂ := [x.f0]))
theorem pgs_put (u e : Int) : ∀ (l : List S25), u ∉ pgs l → (pgs (putF u e l)).Perm (u :: pgs l)
  | [], _ => List.Perm.refl _
  | x :: r, h => by
    have hx : x.f0 ≠ u := fun e_ => h (by simp [pgs, e_])
    have hr : u ∉ pgs r := fun e_ => h (by simp [pgs] at e_ ⊢; exact .inr e_)
    unfold putF
    rw [if_neg hx]
    split
    · exact ((pgs_put u e r hr).cons x.f0).trans (List.Perm.swap _ _ _)
    · exact List.Perm.refl _
theorem mv_put {N : Nat} (hN : N ≤ 1000) {l : List S25} {u e : Int} {ut : List Int} (h : Mv N l (u :: ut)) (h0 : 0 ≤ e) (h4 : e ≤ 4) : Mv N (putF u e l) ut where
  sorted := by
    have hu := rng_mem (h.perm.mem_iff.1 (List.mem_append.2 (.inr (List.mem_cons_self ..))))
    exact chkF_putF h.sorted (by unfold fit; simp; omega)
  ep := fun x hx => by
    rcases mem_putF u e l x hx with rfl | hx
    · exact h4
    · exact h.ep x hx
  perm := by
    have hn : (pgs l ++ u :: ut).Nodup := (h.perm.nodup_iff).2 (rng_nodup N)
    have hu : u ∉ pgs l := fun hu => (List.nodup_append.1 hn).2.2 u hu u (List.mem_cons_self ..) rfl
    refine List.Perm.trans ?_ h.perm
    exact ((pgs_put u e l hu).append_right ut).trans (List.perm_middle.symm)
theorem mv_len {N : Nat} {l : List S25} {us : List Int} (h : Mv N l us) : l.length + us.length = N - 2 := by
  have := h.perm.length_eq
  rw [List.length_append, pgs_len, rng_len] at this
  exact this
theorem mv_mem {N : Nat} {l : List S25} {us : List Int} (h : Mv N l us) (p : Int) (hp : p ∈ pgs l ++ us) : 2 ≤ p ∧ p < N := rng_mem (h.perm.mem_iff.1 hp)
theorem mv_all {N : Nat} (hN : N ≤ 1000) {l : List S25} {us : List Int} (h : Mv N l us) : l.all (fun x => i64B x.f0) = true ∧ us.all i64B = true := by
  rw [List.all_eq_true, List.all_eq_true]
  refine ⟨fun x hx => ?_, fun p hp => ?_⟩
  · have := mv_mem h x.f0 (List.mem_append.2 (.inl (List.mem_map.2 ⟨x, hx, rfl⟩)))
    unfold i64B; simp; omega
  · have := mv_mem h p (List.mem_append.2 (.inr hp))
    unfold i64B; simp; omega
theorem mv_ok {N : Nat} {l : List S25} {us : List Int} (h : Mv N l us) (M : Nat) (hM : N ≤ M) : ∀ p ∈ l.map (·.f0) ++ us, okP (l.map (·.f0) ++ us) (M : Int) p := fun p hp => by
  have hn : (pgs l ++ us).Nodup := (h.perm.nodup_iff).2 (rng_nodup N)
  have := mv_mem h p hp
  refine ⟨?_, by omega, by omega⟩
  show (pgs l ++ us).count p = 1
  rw [hn.count]; exact if_pos hp
theorem mv_cover {N : Nat} (h2 : 2 ≤ N) (hN : N ≤ 1000) {l : List S25} {us : List Int} (h : Mv N l us) : free_Cover.f l us (N : Int) = some true ∧ free_Cover.f l us ((N : Int) + 1) = some false := by
  have hl := mv_len h
  have ha := mv_all hN h
  have hc1 := (cover_yes l us (N : Int) (mv_ok h N (Nat.le_refl _))).2
  have hc2 := (cover_yes l us ((N + 1 : Nat) : Int) (mv_ok h (N + 1) (by omega))).2
  have hll : (l.map (·.f0) ++ us).length = N - 2 := by rw [List.length_append, List.length_map]; exact hl
  have e1 : mx (wrap64 ((N : Int) - 2)) 0 = (N : Int) - 2 := by unfold mx wrap64; split <;> omega
  have e2 : mx (wrap64 (((N + 1 : Nat) : Int) - 2)) 0 = (N : Int) - 1 := by unfold mx wrap64; split <;> omega
  rw [hll, e1] at hc1
  rw [hll, e2] at hc2
  unfold free_Cover.f
  rw [if_pos ⟨by omega, by omega, ha.1, ha.2⟩, if_pos ⟨by omega, by omega, ha.1, ha.2⟩, hc1, show (N : Int) + 1 = ((N + 1 : Nat) : Int) by omega, hc2]
  refine ⟨?_, ?_⟩
  · congr 1; rw [decide_eq_true_iff]; omega
  · congr 1; rw [decide_eq_false_iff_not]; omega
theorem mv_takeF {x : S25} {r : List S25} (h : x.f1 ≤ 4) : takeF 5 (x :: r) = (x.f0, r, true) := by
  unfold takeF; rw [if_pos (by omega)]
end Go.Proofs.Ytmplcceghjofhaa.PF
