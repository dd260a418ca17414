/- Small lemmas: free pages that are read; the first place at which something holds -/
import Derived.Test.YtmplcceghjofhaaHDefs
import Derived.WalkLawsBesides
import Derived.Shelf.Slices.Clone
namespace Go.Proofs.Ytmplcceghjofhaa.PF
open Go.RowKit Go.Proofs.YtmplcceghjofhaaW.PrintWords Go.Proofs.YtmplcceghjofhaaW.PrintLast Go.Proofs.YtmplcceghjofhaaW.PrintMore
set_option linter.unusedVariables false
set_option linter.unusedSimpArgs false
theorem fr_at {w : World} {A : Option Addr} {l : List S25} (h : Kd.C k25 w A l.length l) (k : Nat) (hk : k < l.length) :
    ∃ ad x, A = some ad ∧ Aside0 (l[k]? = some x) ∧ w.cell? (ad.add (k * 2)) = some (.int .i64 x.f0) ∧ w.cell? ⟨(ad.add (k * 2)).block, (ad.add (k * 2)).off + 1, none⟩ = some (.int .i64 x.f1) := by
  obtain ⟨ad, e, h1, h2⟩ := at_T25 h (k : Int) (by omega) (by omega)
  rw [Int.toNat_natCast] at h1 h2
  have hr : rd_T25 l (k : Int) = l[k] := by simp [rd_T25, hk]
  rw [hr] at h1 h2
  exact ⟨ad, l[k], e, ⟨List.getElem?_eq_getElem hk⟩, h1, h2⟩
theorem any_snoc {α : Type} (l : List α) (p : α → Bool) (k : Nat) (x : α) (h : l[k]? = some x) : (l.take (k + 1)).any p = ((l.take k).any p || p x) := by
  rw [List.take_add_one, h]; simp
/-- The first place at which p holds, or -1. -/
def idxF {α : Type} (p : α → Bool) (l : List α) : Int := if l.any p then (l.findIdx p : Int) else -1
theorem idx_hit {α : Type} (p : α → Bool) (l : List α) (k : Nat) (x : α) (hn : (l.take k).any p = false) (h : l[k]? = some x) (hp : p x = true) : idxF p l = k := by
  obtain ⟨hk, hx⟩ := List.getElem?_eq_some_iff.1 h
  have ha : l.any p = true := List.any_eq_true.2 ⟨x, by rw [← hx]; exact List.getElem_mem hk, hp⟩
  have hf : l.findIdx p = k := by
    rw [List.findIdx_eq hk]
    refine ⟨by rw [hx]; exact hp, fun j hj => ?_⟩
    have := List.any_eq_false.1 hn (l[j]'(by omega)) (by rw [List.mem_take_iff_getElem]; exact ⟨j, by omega, rfl⟩)
    simpa using this
  unfold idxF
  rw [if_pos ha, hf]
theorem idx_miss {α : Type} (p : α → Bool) (l : List α) (hn : l.any p = false) : idxF p l = -1 := by
  unfold idxF
  rw [hn]
  rfl
theorem idx_ge {α : Type} (p : α → Bool) (l : List α) : (decide (0 ≤ idxF p l)) = l.any p := by
  unfold idxF
  cases l.any p <;> simp
theorem ret_int {k : IntKind} {a b : Int} (h : a = b) : Ending.returned (.int k a) = .returned (.int k b) := by rw [h]
theorem ret_bool {a b : Bool} (h : a = b) : Ending.returned (.bool a) = .returned (.bool b) := by rw [h]
theorem R_made0 (w : World) : k25.R 25 (w.alloc (.cells #[] 25 (0, 0))) w.heap.size (fun _ => True) (.slice (some ⟨w.heap.size, 0, none⟩) 0 0) [] :=
  ⟨fun _ _ => trivial, [], World.ownsRow_made w #[] 0 (Nat.le_refl _) (Nat.zero_le _) rfl, ⟨rfl, fun j p hj => by simp at hj⟩⟩
end Go.Proofs.Ytmplcceghjofhaa.PF
