/- A cell's page, byte by byte; which rows of cells are right -/
import Derived.Test.YtmplcceghjofhaaHPut
import Derived.Test.YtmplcceghjofhaaPF2
namespace Go.Proofs.Ytmplcceghjofhaa.PF
open Go.RowKit Go.Proofs.YtmplcceghjofhaaW.PrintWords Go.Proofs.YtmplcceghjofhaaW.PrintLast Go.Proofs.YtmplcceghjofhaaW.PrintMore
set_option linter.unusedVariables false
set_option linter.unusedSimpArgs false
/-- The number of the first k bytes from o on. -/
def pg (s : ByteArray) (o : Int) : Nat → Int
  | 0 => 0
  | k + 1 => pg s o k * 256 + bt s (o + k)
theorem pg_bd (s : ByteArray) (o : Int) : ∀ k, k ≤ 4 → 0 ≤ pg s o k ∧ pg s o k < 4294967296 ∧ (k < 4 → pg s o k < 16777216) := by
  have b0 := bt_range s (o + (0 : Nat))
  have b1 := bt_range s (o + (1 : Nat))
  have b2 := bt_range s (o + (2 : Nat))
  have b3 := bt_range s (o + (3 : Nat))
  intro k hk
  match k, hk with
  | 0, _ => simp [pg]
  | 1, _ => simp only [pg]; omega
  | 2, _ => simp only [pg]; omega
  | 3, _ => simp only [pg]; omega
  | 4, _ => simp only [pg]; omega
theorem ofCell_pg (s : ByteArray) : ofCell s = ⟨pg s 0 4, pg s 4 4⟩ := by
  unfold ofCell
  simp only [pg]
  congr 1
  · show _ = (((0 * 256 + bt s 0) * 256 + bt s 1) * 256 + bt s 2) * 256 + bt s 3
    omega
  · show _ = (((0 * 256 + bt s 4) * 256 + bt s 5) * 256 + bt s 6) * 256 + bt s 7
    omega
theorem orI (i : Nat) (x y : Int) (hx0 : 0 ≤ x) (hx : x % 2 ^ i = 0) (hx1 : x < 4294967296) (hy0 : 0 ≤ y) (hy : y < 2 ^ i) (hi : (2 : Int) ^ i ≤ 4294967296) : Go.bits .or .i64 x y = x + y :=
  bits_join .i64 32 (by decide) (fun n h0 h1 => by rw [IntKind.wrap_i64]; omega) i x y hx0 hx (by omega) hy0 hy (by omega)
theorem pg_or (s : ByteArray) (o : Int) (k : Nat) (hk : k < 4) : Go.bits .or .i64 (pg s o k * 256) (bt s (o + k)) = pg s o (k + 1) := by
  have h := pg_bd s o k (by omega)
  have hb := bt_range s (o + k)
  rw [orI 8 _ _ (by omega) (by omega) (by omega) (by omega) (by omega) (by decide)]
  rfl
/-- Is the j-th row of n right? -/
def rowOk (n j : Nat) (c : List ByteArray) : Prop := (0 < c.length ∧ c.length ≤ 23 ∧ (c.length = 23 ∨ n ≤ j + 1)) ∧ ∀ s ∈ c, s.size = 8
theorem shapeF_iff (l : List (List ByteArray)) : shapeF l = true ↔ ∀ j c, l[j]? = some c → rowOk l.length j c := by
  induction l with
  | nil => simp [shapeF]
  | cons c r ih =>
    cases r with
    | nil =>
      simp only [shapeF, Bool.and_eq_true, decide_eq_true_iff, List.all_eq_true]
      constructor
      · rintro ⟨h1, h2⟩ j d hd
        cases j with
        | zero => simp at hd; subst hd; exact ⟨⟨h1.1, h1.2, .inr (by simp)⟩, h2⟩
        | succ j => simp at hd
      · intro h
        obtain ⟨⟨h1, h2, _⟩, h3⟩ := h 0 c rfl
        exact ⟨⟨h1, h2⟩, h3⟩
    | cons d r =>
      simp only [shapeF, Bool.and_eq_true, decide_eq_true_iff, List.all_eq_true]
      rw [ih]
      constructor
      · rintro ⟨⟨h1, h2⟩, h3⟩ j x hx
        cases j with
        | zero => simp at hx; subst hx; exact ⟨⟨by omega, by omega, .inl h1⟩, h2⟩
        | succ j =>
          obtain ⟨⟨a, b, e⟩, f⟩ := h3 j x (by simpa using hx)
          exact ⟨⟨a, b, e.imp id (fun e => by simp at e ⊢; omega)⟩, f⟩
      · intro h
        obtain ⟨⟨a, b, e⟩, f⟩ := h 0 c rfl
        refine ⟨⟨e.elim id (fun e => by simp at e), f⟩, fun j x hx => ?_⟩
        obtain ⟨⟨a, b, e⟩, f⟩ := h (j + 1) x (by simpa using hx)
        exact ⟨⟨a, b, e.imp id (fun e => by simp at e ⊢; omega)⟩, f⟩
theorem shapeF_no {l : List (List ByteArray)} {j : Nat} {c : List ByteArray} (hc : l[j]? = some c) (h : ¬ rowOk l.length j c) : shapeF l = false := by
  cases hs : shapeF l with
  | false => rfl
  | true => exact absurd ((shapeF_iff l).1 hs j c hc) h
end Go.Proofs.Ytmplcceghjofhaa.PF
