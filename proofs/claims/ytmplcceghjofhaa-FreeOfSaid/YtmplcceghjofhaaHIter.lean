/- slices.Chunk's function value: chunks one by one -/
import Derived.Test.YtmplcceghjofhaaHChunk
namespace Go.Proofs.Ytmplcceghjofhaa.PF
open Go.RowKit Go.Shelf Go.Proofs.YtmplcceghjofhaaW.PrintWords Go.Proofs.YtmplcceghjofhaaW.PrintLast Go.Proofs.YtmplcceghjofhaaW.PrintMore
set_option linter.unusedVariables false
set_option linter.unusedSimpArgs false
attribute [local go_sem] Oper.semAt_some
theorem from_drew {β : Type} {B : Nat} {J : β → World → Prop} (h : AbidesFrom B J) {s : β} {W : World} (hs : J s W) : J s W.drew :=
  h s W W.drew none hs ⟨rfl, rfl, rfl, Nat.le_refl _, fun _ _ _ => rfl⟩ (fun r e => by cases e)
theorem blk_below0 {W W' : World} {b n₀ : Nat} {o : Obj} (h : W.heap[b]? = some o) (hb : b < n₀) (hk : Below n₀ W W') : W'.heap[b]? = some o := (hk.block _ hb).trans h
theorem below_drewN0 {n₀ m : Nat} {W W' : World} (hk : Below n₀ (W.drewN m) W') : Below n₀ W W' := (below_drewN (Below.refl _ _) m).trans hk
/-- What a round must keep for the chunks' function value: its two variables. -/
def KpC (gs gn : Nat) (W W' : World) : Prop := W'.heap[gs]? = W.heap[gs]? ∧ W'.heap[gn]? = W.heap[gn]?
theorem KpC.trans {gs gn : Nat} {A B C : World} (h : KpC gs gn A B) (k : KpC gs gn B C) : KpC gs gn A C := ⟨k.1.trans h.1, k.2.trans h.2⟩
theorem KpC.put {gs gn : Nat} (W : World) (l : Nat) (o' : Obj) (h1 : gs < l) (h2 : gn < l) : KpC gs gn W (W.putObj l o') := ⟨World.putObj_heap_other (by omega), World.putObj_heap_other (by omega)⟩
set_option maxRecDepth 100000 in
set_option maxHeartbeats 4000000 in
theorem iter32 (n : Nat) (hn : 1 ≤ n) (l gs gn : Nat) (A : Option Addr) (len c : Nat) (hlen : len ≤ 100000) (hcap : len ≤ c) (J Jx : List (Ch (nCh len)) → World → Prop) (W : World)
    (hJ : AbidesFrom W.heap.size J)
    (hs : W.heap[gs]? = some (.cells #[.slice A len c] 22 (0, 0))) (hn2 : W.heap[gn]? = some (.cells #[.int .i64 23] 3 (0, 0)))
    (hY : ∀ pre x W1, J pre W1 → pre.length < nCh len → YieldAt Fence.wide (n - 1) Try.prog l #[encC A len x.1] W1 fun e W' =>
      (e = .returned (.bool true) ∧ J (pre ++ [x]) W' ∧ KpC gs gn W1 W') ∨ (e = .returned (.bool false) ∧ Jx (pre ++ [x]) W'))
    (h0 : J [] W) :
    CallsIn Fence.wide n Try.prog 32 #[.func (.yield l) #[] #[], .pointer (some ⟨gs, 0, none⟩), .pointer (some ⟨gn, 0, none⟩)] W fun e W' => (∃ v, e = .returned v) ∧
      ((∃ ys, ys = upto (nCh len) (nCh len) (Nat.le_refl _) ∧ J ys W') ∨ (∃ pre, True ∧ Jx pre W')) := by
  refine callsIn_of_wp Try.func32 rfl trivial ?_ rfl
  simp only [Try.ntmps32, List.size_toArray, List.length_cons, List.length_nil, Nat.reduceAdd, Nat.reduceSub, Array.replicate_succ, Array.replicate_zero, List.push_toArray, List.append_toArray, List.nil_append, List.cons_append]
  gi_wp2
  gi_loopw [4] (fun p wr => ∃ (k : Nat) (hk : k ≤ nCh len), p = .int .i64 (23 * (k : Int)) ∧ J (upto (nCh len) k hk) wr ∧ Aside0 (wr.heap[gs]? = some (.cells #[.slice A len c] 22 (0, 0))) ∧ Aside0 (wr.heap[gn]? = some (.cells #[.int .i64 23] 3 (0, 0))))
    (fun p wr => nCh len - (intOf p).toNat / 23)
  case atStart => exact ⟨0, Nat.zero_le _, rfl, h0, ⟨hs⟩, ⟨hn2⟩⟩
  case round =>
    obtain ⟨k, hk, rfl, hJs, HS, HN⟩ := hrel
    have hc0 : wr.cell? ⟨gs, 0, none⟩ = some (.slice A len c) := (blk_cell HS.out 0).trans rfl
    have hc1 : wr.cell? ⟨gn, 0, none⟩ = some (.int .i64 23) := (blk_cell HN.out 0).trans rfl
    by_cases hkl : k < nCh len
    · have hlt : 23 * k < len := by unfold nCh at hkl; omega
      have hlt1 : 23 * (k : Int) < (len : Int) := by omega
      have hlt2 : 23 * (k : Int) ≤ (len : Int) := by omega
      have hlt0 : (0 : Int) ≤ 23 * (k : Int) := by omega
      have hu22 := Try.underlying22
      have hdk : decide (23 * (k : Int) < (len : Int)) = true := by simpa using hlt1
      gi_wp2
      refine wpIn_wide.2 ?_
      go_quiet (fail)
      have hm : min (23 : Int) ((len - 23 * k : Nat) : Int) = ((min 23 (len - 23 * k) : Nat) : Int) := by omega
      rw [hm]
      obtain ⟨m, hme⟩ : ∃ m, min 23 (len - 23 * k) = m := ⟨_, rfl⟩
      rw [hme]
      have hcut : ∀ W : World, (Instr.slice 22 (.slice A len c) (some (.int .i64 (23 * (k : Int)))) (some (.int .i64 (23 * (k : Int) + (m : Int)))) (some (.int .i64 (23 * (k : Int) + (m : Int))))).run Try.prog W = .ok (encC A len k) W := fun W => by
        have := cut3 22 25 _ _ hu22 info25 A len c (23 * k) (23 * k + m) (by omega) (by omega) W
        rw [show ((23 * k : Nat) : Int) = 23 * (k : Int) by omega, show ((23 * k + m : Nat) : Int) = 23 * (k : Int) + (m : Int) by omega] at this
        rw [this]
        unfold encC
        rw [hme, show 23 * k + m - 23 * k = m by omega]
      have hJ2 : J (upto (nCh len) k hk) (wr.drewN nq) := hJ _ _ _ none hJs ⟨rfl, rfl, rfl, Nat.le_refl _, fun _ _ _ => rfl⟩ (fun r e => by cases e)
      obtain ⟨fn, tmps, assign, body, hy, hR⟩ := hY (upto (nCh len) k hk) ⟨k, hkl⟩ (wr.drewN nq) hJ2 (by rw [upto_len]; exact hkl)
      dsimp only at hy
      have hb3 : 23 * (k : Int) + (m : Int) ≤ 200000 := by omega
      have hb4 : (0 : Int) ≤ 23 * (k : Int) + (m : Int) := by omega
      gi_wp2
      refine hR.mono ?_
      rintro e W3 (⟨rfl, hJ3, hk3⟩ | ⟨rfl, hJx3⟩)
      · have HS3 := hk3.1.trans HS.out
        have HN3 := hk3.2.trans HN.out
        have hd1 : W3.cell? ⟨gn, 0, none⟩ = some (.int .i64 23) := (blk_cell HN3 0).trans rfl
        have hb5 : 23 * (k : Int) + 23 ≤ 200000 := by omega
        gi_wp2
        go_roundw
        case rel => exact ⟨k + 1, hkl, by simp only [Value.int.injEq, true_and]; omega, hJ3, ⟨HS3⟩, ⟨HN3⟩⟩
        case measure => simp [intOf]; omega
      · gi_wp2
        refine bodyPost_ret (results_none rfl _ _ _) rfl ?_
        exact ⟨⟨_, rfl⟩, .inr ⟨_, trivial, hJx3⟩⟩
    · obtain rfl : k = nCh len := by omega
      have hlt : len ≤ 23 * nCh len := by unfold nCh; omega
      have hlt1 : (len : Int) ≤ 23 * ((nCh len : Nat) : Int) := by omega
      have hdk : decide (23 * ((nCh len : Nat) : Int) < (len : Int)) = false := by simp; omega
      gi_wp2
      go_end0
      exact ⟨⟨_, rfl⟩, .inl ⟨_, rfl, hJs⟩⟩
/-- The contract of the function value that Chunk hands back. -/
theorem chunks_stops (n : Nat) (hn : 1 ≤ n) (gs gn : Nat) (A : Option Addr) (len c : Nat) (hlen : len ≤ 100000) (hcap : len ≤ c) (w : World)
    (hs : w.heap[gs]? = some (.cells #[.slice A len c] 22 (0, 0))) (hn2 : w.heap[gn]? = some (.cells #[.int .i64 23] 3 (0, 0))) :
    SeqStopsK Fence.wide n Try.prog 32 #[.pointer (some ⟨gs, 0, none⟩), .pointer (some ⟨gn, 0, none⟩)] (fun x : Ch (nCh len) => #[encC A len x.1]) (KpC gs gn) (fun ys => ys = upto (nCh len) (nCh len) (Nat.le_refl _)) (fun _ => True) (nCh len) w := fun l J Jx W hW hJ _ hY h0 => by
  have hbs : gs < w.heap.size := (Array.getElem?_eq_some_iff.1 hs).1
  have hbn : gn < w.heap.size := (Array.getElem?_eq_some_iff.1 hn2).1
  exact iter32 n hn l gs gn A len c hlen hcap J Jx W hJ (blk_below0 hs hbs hW) (blk_below0 hn2 hbn hW) hY h0
end Go.Proofs.Ytmplcceghjofhaa.PF
