/- slices.Chunk: what it hands back -/
import Derived.Test.YtmplcceghjofhaaHPut
import Derived.RangeFuncNested
import Derived.RangeFuncBound
import Derived.RangeFuncCalls
import Derived.RangeFuncLeaves
import Derived.Shelf.Abstract
import Derived.Shelf.RegionOpen
import Derived.WalkKit
import Derived.OwnWalkIn
import Derived.TacticsInMore
import Derived.LoopNIn
import Derived.LoopIn
namespace Go.Proofs.Ytmplcceghjofhaa.PF
open Go.RowKit Go.Shelf Go.Proofs.YtmplcceghjofhaaW.PrintWords Go.Proofs.YtmplcceghjofhaaW.PrintLast Go.Proofs.YtmplcceghjofhaaW.PrintMore
set_option linter.unusedVariables false
set_option linter.unusedSimpArgs false
attribute [local go_sem] Oper.semAt_some
set_option maxHeartbeats 1000000 in
set_option maxRecDepth 100000 in
/-- Chunk: the row and the number are boxed; the function value has both. -/
theorem chunk29 (A : Option Addr) (n c : Nat) (w : World) :
    Calls Try.prog 29 #[.slice A n c, .int .i64 23] w fun e w' => ∃ gs gn : Nat, e = .returned (.func (.func 32) #[] #[.pointer (some ⟨gs, 0, none⟩), .pointer (some ⟨gn, 0, none⟩)]) ∧ Aside0 (w'.heap[gs]? = some (.cells #[.slice A n c] 22 (0, 0))) ∧ Aside0 (w'.heap[gn]? = some (.cells #[.int .i64 23] 3 (0, 0))) ∧ Aside0 (w.heap.size ≤ gs ∧ gs < gn) ∧ Aside0 (Below w.heap.size w w') := by
  go_enter Try.func29, Try.ntmps29
  go_wp2_with (first | ((with_reducible refine gate_dst (N := 2) rfl ?_); refine box_event ?hg (N := 2) ?hd (cs := #[.slice A n c]) (t := 22) ?hr ?_; (case hd => rfl); (case hg => rfl); (case hr => first | (go_simp; done) | (go_simp; rfl)); intro gs hg w2 hbox hb; have GS := Aside0.mk (show w.heap.size ≤ gs by omega); have HB := Aside0.mk hb; have BS := Aside0.mk hbox; clear hg hbox hb) | ((with_reducible refine gate_dst (N := 3) rfl ?_); refine box_event ?hg (N := 3) ?hd (cs := #[.int .i64 23]) (t := 3) ?hr ?_; (case hd => rfl); (case hg => rfl); (case hr => first | (go_simp; done) | (go_simp; rfl)); intro gn hg w3 hbox hb; have GN := Aside0.mk (show gs < gn by have := blk_lt BS.out; omega); have BS1 := Aside0.mk (blk_below BS.out hb); have HB1 := Aside0.mk (below_step HB.out hb); have BN := Aside0.mk hbox; clear hg hbox hb BS HB; have hn0 : _ = some (Value.int .i64 23) := (blk_cell BN.out 0).trans rfl))
  go_ret
  exact ⟨gs, gn, rfl, BS1, BN, ⟨GS.out, GN.out⟩, HB1⟩
/-- How many chunks. -/
def nCh (n : Nat) : Nat := (n + 22) / 23
/-- A chunk's number. -/
abbrev Ch (N : Nat) := { j : Nat // j < N }
/-- The first k chunks. -/
def upto (N : Nat) : (k : Nat) → k ≤ N → List (Ch N)
  | 0, _ => []
  | k + 1, h => upto N k (by omega) ++ [⟨k, h⟩]
theorem upto_len (N : Nat) : ∀ (k : Nat) (h : k ≤ N), (upto N k h).length = k
  | 0, _ => rfl
  | k + 1, h => by unfold upto; rw [List.length_append, upto_len N k (by omega)]; rfl
theorem upto_pre (N : Nat) : ∀ (d k : Nat) (h : k + d ≤ N), upto N k (by omega) <+: upto N (k + d) h
  | 0, k, h => List.prefix_refl _
  | d + 1, k, h => List.IsPrefix.trans (upto_pre N d k (by omega)) (List.prefix_append _ _)
/-- The j-th chunk of a row. -/
def encC (A : Option Addr) (n : Nat) (j : Nat) : Value := .slice (A.map (·.add (23 * j * 2))) (min 23 (n - 23 * j)) (min 23 (n - 23 * j))
open Go in
theorem cut3 (t e : TypeId) (z : Value) (by_ : Nat) (ht : Try.prog.underlying t = some (.slice e)) (hi : (Try.prog.info? e).map (fun i => (i.zero, i.size, i.bytes)) = some (some z, 2, by_)) (A : Option Addr) (n c p q : Nat) (h : p < q) (hq : q ≤ c) (W : World) :
    (Instr.slice t (.slice A n c) (some (.int .i64 p)) (some (.int .i64 q)) (some (.int .i64 q))).run Try.prog W = .ok (.slice (A.map (·.add (p * 2))) (q - p) (q - p)) W := by
  obtain ⟨i0, hi0, hzz⟩ := Option.map_eq_some_iff.1 hi
  simp only [Prod.mk.injEq] at hzz
  obtain ⟨hz0, hz1, hz2⟩ := hzz
  have hel : Try.prog.elem t = e := by simp [Program.elem, ht]
  rw [run_slice_lhm W t A n c (by rw [hel]; exact ht) .i64 .i64 .i64 p q q (by omega) (by omega) (by omega) (by omega), hel]
  cases A <;> simp [sliced, Result.andThen, Addr.add, sizeOf, typeInfo, hi0, hz1] <;> omega
end Go.Proofs.Ytmplcceghjofhaa.PF
