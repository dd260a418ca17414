/- A map that counts pages; what free.Cover tells, by counts -/
import Derived.Test.YtmplcceghjofhaaHDefs
import Derived.Maps.RangeWalk
import Derived.Maps.OwnOps
namespace Go.Proofs.Ytmplcceghjofhaa.PF
open Go.RowKit Go.Maps Go.Proofs.YtmplcceghjofhaaW.PrintWords Go.Proofs.YtmplcceghjofhaaW.PrintLast Go.Proofs.YtmplcceghjofhaaW.PrintMore
set_option linter.unusedVariables false
set_option linter.unusedSimpArgs false
/-- A map that holds how often each number is in a list. -/
structure Cnt (D : DataW Unit) (xs : List Int) : Prop where
  here : ∀ p : Int, Maps.has D (.int .i64 p) = decide (p ∈ xs)
  much : ∀ p : Int, D.atKey (.int .i64 p) (.lit (.int .i64 0)) = .lit (.int .i64 (xs.count p : Nat))
  size : xs.Nodup → Maps.size D = xs.length
  tidy : Tidy D
theorem cnt_nil : Cnt (.map []) [] := ⟨fun p => by simp [Maps.has], fun p => by rw [atKey_of_not_has (by simp [Maps.has])]; rfl, fun _ => rfl, tidy_empty⟩
theorem keyI (p : Int) : WideAt.IsKeyLit (.int .i64 p) := trivial
theorem litI_ne {p q : Int} (h : p ≠ q) : (Lit.int .i64 p) ≠ .int .i64 q := fun e => h (by cases e; rfl)
theorem cnt_put {D : DataW Unit} {xs : List Int} (h : Cnt D xs) (x : Int) : Cnt (D.put (.int .i64 x) (.lit (.int .i64 ((xs.count x : Nat) + 1)))) (xs ++ [x]) where
  here p := by
    by_cases e : p = x
    · subst e; rw [has_put_same h.tidy.isMap (keyI _)]; simp
    · rw [has_put_other (litI_ne e), h.here]; simp [e]
  much p := by
    by_cases e : p = x
    · subst e; rw [atKey_put_same h.tidy.isMap (keyI _)]; simp
    · rw [atKey_put_other (litI_ne e), h.much]
      have : List.count p [x] = 0 := List.count_eq_zero.2 (by simp [e])
      rw [List.count_append, this]; rfl
  size hn := by
    rw [List.nodup_append] at hn
    have hx : x ∉ xs := fun hx => hn.2.2 x hx x (by simp) rfl
    rw [size_put h.tidy, h.here]
    simp [hx, h.size hn.1]
  tidy := h.tidy.put (keyI _) _
theorem cnt_c {D : DataW Unit} {xs : List Int} (h : Cnt D xs) {x c : Int} (hat : D.atKey (.int .i64 x) (.lit (.int .i64 0)) = .lit (.int .i64 c)) : c = (xs.count x : Nat) := by
  rw [h.much] at hat
  cases hat
  rfl
theorem cnt_in {D : DataW Unit} {xs : List Int} (h : Cnt D xs) {x : Int} {y : DataW Unit} (hat : ∀ z, D.atKey (.int .i64 x) z = y) : x ∈ xs := by
  have := has_true_of_atKey hat
  rw [h.here] at this
  simpa using this
/-- Is a page there once, and one of the disk's? -/
def okP (xs : List Int) (pages p : Int) : Prop := xs.count p = 1 ∧ 2 ≤ p ∧ p < pages
theorem cover_no (l : List S25) (used : List Int) (pages p : Int) (hp : p ∈ l.map (·.f0) ++ used) (h : ¬ okP (l.map (·.f0) ++ used) pages p) : coverF l used pages = false := by
  unfold coverF
  generalize l.map (·.f0) ++ used = xs at *
  unfold okP at h
  by_cases h1 : xs.Nodup
  · have hc := h1.count (a := p)
    rw [if_pos hp] at hc
    have : ¬ (2 ≤ p ∧ p < pages) := fun hh => h ⟨hc, hh.1, hh.2⟩
    have ha : xs.all (fun p => decide (2 ≤ p ∧ p < pages)) = false := by
      rw [Bool.eq_false_iff]
      intro ht
      rw [List.all_eq_true] at ht
      exact this (by simpa using ht p hp)
    rw [ha]; simp
  · simp [h1]
theorem cover_yes (l : List S25) (used : List Int) (pages : Int) (h : ∀ p ∈ l.map (·.f0) ++ used, okP (l.map (·.f0) ++ used) pages p) :
    (l.map (·.f0) ++ used).Nodup ∧ coverF l used pages = decide (((l.map (·.f0) ++ used).length : Int) = mx (wrap64 (pages - 2)) 0) := by
  unfold coverF
  generalize l.map (·.f0) ++ used = xs at *
  have hn : xs.Nodup := List.nodup_iff_count.2 (fun a => by
    by_cases ha : a ∈ xs
    · rw [(h a ha).1]; exact Nat.le_refl _
    · rw [List.count_eq_zero.2 ha]; exact Nat.zero_le _)
  have ha : xs.all (fun p => decide (2 ≤ p ∧ p < pages)) = true := by
    rw [List.all_eq_true]
    intro p hp
    simpa using (h p hp).2
  refine ⟨hn, ?_⟩
  rw [ha]
  simp [hn]
theorem wf_i64 {p : Int} (h : i64B p = true) : (Lit.int .i64 p).wf = true := by
  unfold i64B at h
  simp only [decide_eq_true_eq] at h
  simp only [Lit.wf, Bool.and_eq_true, decide_eq_true_eq]
  exact ⟨h.1, h.2⟩
/-- A list's pages. -/
def pgs (l : List S25) : List Int := l.map (·.f0)
theorem pgs_snoc (l : List S25) (k : Nat) (x : S25) (h : l[k]? = some x) : pgs (l.take (k + 1)) = pgs (l.take k) ++ [x.f0] := by
  unfold pgs; rw [List.take_add_one, h]; simp
theorem pgs_len (l : List S25) : (pgs l).length = l.length := by simp [pgs]
theorem count_le {xs : List Int} {x : Int} {n : Nat} (h : xs.length ≤ n) : (xs.count x : Int) ≤ n := by have := @List.count_le_length _ _ x xs; omega
theorem law3 : Keyed Try.prog 3 := int_keyed Try.underlying3
theorem zero3 (w : World) : (zeroValue 3).run Try.prog w = .ok (.int .i64 0) w := by kernel_rfl
theorem int_at {w : World} {A : Option Addr} {l : List Int} (h : Kd.C (Kd.int .i64) w A l.length l) (k : Nat) (hk : k < l.length) :
    ∃ ad x, A = some ad ∧ Aside0 (l[k]? = some x) ∧ w.cell? (ad.add k) = some (.int .i64 x) := by
  obtain ⟨ad, e, hx⟩ := Kd.at_int h (k : Int) (by omega) (by omega)
  refine ⟨ad, l[k], e, ⟨List.getElem?_eq_getElem hk⟩, ?_⟩
  rw [Int.toNat_natCast] at hx
  rw [hx]
  simp [rd, hk]
theorem app_snoc {α : Type} (m l : List α) (k : Nat) (x : α) (h : l[k]? = some x) : m ++ l.take (k + 1) = (m ++ l.take k) ++ [x] := by
  rw [List.take_add_one, h]; simp
end Go.Proofs.Ytmplcceghjofhaa.PF
