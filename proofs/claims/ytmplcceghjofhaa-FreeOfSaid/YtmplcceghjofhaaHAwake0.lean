/- What awake calls, at its one input -/
import Derived.Test.YtmplcceghjofhaaHCells
import Derived.Test.YtmplcceghjofhaaHCover
import Derived.Test.YtmplcceghjofhaaHOf
import Derived.Test.YtmplcceghjofhaaPF3
namespace Go.Proofs.Ytmplcceghjofhaa.PF
open Go.RowKit Go.Proofs.YtmplcceghjofhaaW.PrintWords Go.Proofs.YtmplcceghjofhaaW.PrintLast Go.Proofs.YtmplcceghjofhaaW.PrintMore
set_option linter.unusedVariables false
set_option linter.unusedSimpArgs false
theorem V_lit {α : Type} {d : Kd α} {e base : Nat} {W : World} {ok : Nat → Prop} {v : Value} {xs : List α} (h : Kd.V d e W base ok v xs) (n : Nat) (hn : xs.length = n) : ∃ A c, v = .slice A n c ∧ n ≤ c ∧ d.C W A n xs := by
  obtain ⟨A, c, rfl⟩ := Kd.V_slice h
  obtain ⟨_, h2, h3⟩ := Kd.V_reads' h
  subst hn
  exact ⟨A, c, rfl, h2, h3⟩
def aw1 : List S25 := [⟨7, 1⟩]
def aw2 : List S25 := [⟨5, 3⟩, ⟨7, 1⟩]
def awC : List (List ByteArray) := [[cellF ⟨5, 3⟩, cellF ⟨7, 1⟩]]
theorem aw_put1 (w : World) : Calls Try.prog 13 #[.slice none 0 0, .int .i64 7, .int .i64 1] w fun e w' => ∃ A c, e = .returned (.slice A 1 c) ∧ 1 ≤ c ∧ Aside0 (k25.C w' A 1 aw1) ∧ Aside0 (Below w.heap.size w w') := by
  refine (free_Put.calls none 0 [] 7 1 aw1 w (Kd.C_nil _ _) (Nat.le_refl _) rfl).mono ?_
  rintro e w' ⟨v, rfl, hv, hb⟩
  obtain ⟨A, c, rfl, h1, h2⟩ := V_lit hv 1 rfl
  exact ⟨A, c, rfl, h1, ⟨h2⟩, ⟨hb⟩⟩
theorem aw_put2 (A : Option Addr) (c : Nat) (hc : 1 ≤ c) (w : World) (h : k25.C w A 1 aw1) : Calls Try.prog 13 #[.slice A 1 c, .int .i64 5, .int .i64 3] w fun e w' => ∃ A c, e = .returned (.slice A 2 c) ∧ 2 ≤ c ∧ Aside0 (k25.C w' A 2 aw2) ∧ Aside0 (Below w.heap.size w w') := by
  refine (free_Put.calls A c aw1 5 3 aw2 w h hc rfl).mono ?_
  rintro e w' ⟨v, rfl, hv, hb⟩
  obtain ⟨A, c, rfl, h1, h2⟩ := V_lit hv 2 rfl
  exact ⟨A, c, rfl, h1, ⟨h2⟩, ⟨hb⟩⟩
theorem aw_take1 (A : Option Addr) (c : Nat) (hc : 2 ≤ c) (w : World) (h : k25.C w A 2 aw2) : Calls Try.prog 14 #[.slice A 2 c, .int .i64 2] w fun e w' => ∃ A c, e = .returned (.tuple #[.int .i64 7, .slice A 1 c, .bool true]) ∧ Aside0 (Below w.heap.size w w') := by
  refine (free_Take.calls A c aw2 2 7 [⟨5, 3⟩] true w h hc rfl).mono ?_
  rintro e w' ⟨v, rfl, hv, hb⟩
  obtain ⟨A, c, rfl, h1, h2⟩ := V_lit hv 1 rfl
  exact ⟨A, c, rfl, ⟨hb⟩⟩
theorem aw_take2 (A : Option Addr) (c : Nat) (hc : 2 ≤ c) (w : World) (h : k25.C w A 2 aw2) : Calls Try.prog 14 #[.slice A 2 c, .int .i64 3] w fun e w' => ∃ A c, e = .returned (.tuple #[.int .i64 5, .slice A 1 c, .bool true]) ∧ Aside0 (Below w.heap.size w w') := by
  refine (free_Take.calls A c aw2 3 5 [⟨7, 1⟩] true w h hc rfl).mono ?_
  rintro e w' ⟨v, rfl, hv, hb⟩
  obtain ⟨A, c, rfl, h1, h2⟩ := V_lit hv 1 rfl
  exact ⟨A, c, rfl, ⟨hb⟩⟩
theorem aw_cells (A : Option Addr) (c : Nat) (hc : 2 ≤ c) (w : World) (h : k25.C w A 2 aw2) : Calls Try.prog 19 #[.slice A 2 c] w fun e w' => ∃ A c, e = .returned (.tuple #[.slice A 1 c, .int .i64 0]) ∧ 1 ≤ c ∧ Aside0 ((Kd.slice 9 Kd.string).C w' A 1 awC) ∧ Aside0 (Below w.heap.size w w') := by
  refine (free_Cells.calls A c aw2 awC 0 w h hc rfl).mono ?_
  rintro e w' ⟨v, rfl, hv, hb⟩
  obtain ⟨A, c, rfl, h1, h2⟩ := V_lit hv 1 rfl
  exact ⟨A, c, rfl, h1, ⟨h2⟩, ⟨hb⟩⟩
theorem aw_of (A : Option Addr) (c : Nat) (hc : 1 ≤ c) (w : World) (h : (Kd.slice 9 Kd.string).C w A 1 awC) : Calls Try.prog 22 #[.slice A 1 c] w fun e w' => ∃ A c, e = .returned (.tuple #[.slice A 2 c, .int .i64 0]) ∧ 2 ≤ c ∧ Aside0 (k25.C w' A 2 aw2) ∧ Aside0 (Below w.heap.size w w') := by
  refine (free_Of.calls A c awC aw2 0 w h hc (by kernel_rfl)).mono ?_
  rintro e w' ⟨v, rfl, hv, hb⟩
  obtain ⟨A, c, rfl, h1, h2⟩ := V_lit hv 2 rfl
  exact ⟨A, c, rfl, h1, ⟨h2⟩, ⟨hb⟩⟩
theorem aw_same (A : Option Addr) (c : Nat) (hc : 2 ≤ c) (A' : Option Addr) (c' : Nat) (hc' : 2 ≤ c') (w : World) (h : k25.C w A 2 aw2) (h' : k25.C w A' 2 aw2) : Calls Try.prog 16 #[.slice A 2 c, .slice A' 2 c'] w fun e w' => e = .returned (.bool true) ∧ Aside0 (Below w.heap.size w w') := by
  refine (lunetteref06_Same.calls 9 A c aw2 A' c' aw2 true w h hc h' hc' (by kernel_rfl)).mono ?_
  rintro e w' ⟨rfl, hb⟩
  exact ⟨rfl, ⟨hb.below⟩⟩
theorem aw_check (A : Option Addr) (c : Nat) (hc : 2 ≤ c) (w : World) (h : k25.C w A 2 aw2) : Calls Try.prog 12 #[.slice A 2 c] w fun e w' => e = .returned (.bool true) ∧ Aside0 (Below w.heap.size w w') := by
  refine (free_Check.calls 9 A c aw2 true w h hc (by kernel_rfl)).mono ?_
  rintro e w' ⟨rfl, hb⟩
  exact ⟨rfl, ⟨hb⟩⟩
theorem aw_usable (A : Option Addr) (c : Nat) (hc : 2 ≤ c) (w : World) (h : k25.C w A 2 aw2) : Calls Try.prog 18 #[.slice A 2 c, .int .i64 2] w fun e w' => e = .returned (.int .i64 1) ∧ Aside0 (Below w.heap.size w w') := by
  refine (free_Usable.calls 9 A c aw2 2 1 w h hc (by kernel_rfl)).mono ?_
  rintro e w' ⟨rfl, hb⟩
  exact ⟨rfl, ⟨hb⟩⟩
theorem C_four {W : World} {g : Nat} (hb : W.heap[g]? = some (.cells #[.int .i64 2, .int .i64 3, .int .i64 4, .int .i64 6] 3 (0, 0))) : (Kd.int .i64).C W (some ⟨g, 0, none⟩) 4 [2, 3, 4, 6] := by
  refine Kd.C_of_reads (enc := Value.int .i64) (d := (0 : Int)) (h1 := fun _ => rfl) ⟨rfl, by omega, fun _ => ⟨_, rfl, fun j hj => ?_⟩⟩
  rcases (by omega : j = 0 ∨ j = 1 ∨ j = 2 ∨ j = 3) with rfl | rfl | rfl | rfl
  · exact (blk_cell hb 0).trans rfl
  · exact (blk_cell hb 1).trans rfl
  · exact (blk_cell hb 2).trans rfl
  · exact (blk_cell hb 3).trans rfl
theorem aw_cover (A : Option Addr) (c : Nat) (hc : 2 ≤ c) (W : World) (h : k25.C W A 2 aw2) : Calls Try.prog 23 #[.slice A 2 c, .slice (some ⟨W.heap.size, 0, none⟩) 4 4, .int .i64 8] (W.alloc (.cells #[.int .i64 2, .int .i64 3, .int .i64 4, .int .i64 6] 3)) fun e w' => e = .returned (.bool true) ∧ Aside0 (Below W.heap.size W w') := by
  refine (free_Cover.calls A c aw2 (some ⟨W.heap.size, 0, none⟩) 4 [2, 3, 4, 6] 8 true _ (Kd.C_alloc h _) hc (C_four (blk_new W _)) (Nat.le_refl _) (by kernel_rfl)).mono ?_
  rintro e w' ⟨rfl, hb⟩
  exact ⟨rfl, ⟨below_step (below_alloc (Below.refl _ W) _) hb⟩⟩
end Go.Proofs.Ytmplcceghjofhaa.PF
