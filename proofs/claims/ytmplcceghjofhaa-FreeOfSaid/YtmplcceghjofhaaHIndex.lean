/- slices.IndexFunc with the two tests -/
import Derived.Test.YtmplcceghjofhaaHKit
namespace Go.Proofs.Ytmplcceghjofhaa.PF
open Go.RowKit Go.Proofs.YtmplcceghjofhaaW.PrintWords Go.Proofs.YtmplcceghjofhaaW.PrintLast Go.Proofs.YtmplcceghjofhaaW.PrintMore
set_option linter.unusedVariables false
set_option linter.unusedSimpArgs false
theorem pred25 (x : S25) (q : Int) (B : Nat) (W : World) (hc : W.cell? ⟨B, 0, none⟩ = some (.int .i64 q)) :
    Calls Try.prog 25 #[.agg #[.int .i64 x.f0, .int .i64 x.f1], .pointer (some ⟨B, 0, none⟩)] W fun e W' => e = .returned (.bool (decide (q ≤ x.f0))) ∧ Below W.heap.size W W' := by
  have hu25 := Try.underlying25
  have HC := Aside0.mk (World.block_lt_of_cell? W _ hc)
  go_enter Try.func25, Try.ntmps25
  go_wp2_with ((with_reducible refine gate_dst (N := 2) rfl ?_); refine box_event ?hg (N := 2) ?hd (cs := #[.int .i64 x.f0, .int .i64 x.f1]) (t := 25) ?hr ?_; (case hd => rfl); (case hg => rfl); (case hr => first | (go_simp; done) | (go_simp; rfl)); intro gb hg w2 hbox hb; have HB := Aside0.mk hb; have hx0 : _ = some (Value.int .i64 x.f0) := (blk_cell hbox 0).trans rfl; have hx1 : _ = some (Value.int .i64 x.f1) := (blk_cell hbox 1).trans rfl; have hc2 := (hb.cell HC.out).trans hc; clear hg hbox hb hc HC)
  go_ret
  exact ⟨rfl, HB.out⟩
set_option maxHeartbeats 1000000 in
theorem index25 (p : S25 → Bool) (B : Nat) (A : Option Addr) (c : Nat) (l : List S25) (w : World)
    (hp : ∀ (x : S25) (W : World), Below w.heap.size w W → Calls Try.prog 25 #[.agg #[.int .i64 x.f0, .int .i64 x.f1], .pointer (some ⟨B, 0, none⟩)] W fun e W' => e = .returned (.bool (p x)) ∧ Below W.heap.size W W')
    (hr : Kd.C k25 w A l.length l) (hl : l.length ≤ 1000000) :
    Calls Try.prog 24 #[.slice A l.length c, .func (.func 25) #[] #[.pointer (some ⟨B, 0, none⟩)]] w fun e w' => e = .returned (.int .i64 (idxF p l)) ∧ Below w.heap.size w w' := by
  have HP := Aside0.mk hp
  have HR := Aside0.mk hr
  have hu25 := Try.underlying25
  clear hp hr
  go_enter Try.func24, Try.ntmps24
  go_wp2
  go_loopw [4, 5, 8] (fun _ _ i wr => ∃ k : Nat, k ≤ l.length ∧ i = .int .i64 k ∧ Aside0 ((l.take k).any p = false) ∧ Aside0 (Below w.heap.size w wr)) (fun _ _ i _ => l.length - (intOf i).toNat)
  case atStart => exact ⟨0, Nat.zero_le _, rfl, ⟨rfl⟩, ⟨Below.refl _ _⟩⟩
  case round =>
    obtain ⟨k, hk, rfl, HN, HB⟩ := hrel
    by_cases hlt : k < l.length
    · obtain ⟨ad, x, rfl, hs, hx0, hx1⟩ := fr_at (Kd.C_below HR.out HB.out) k hlt
      have hi1 : (k : Int) < (l.length : Int) := by omega
      have hi0 : (0 : Int) ≤ (k : Int) := by omega
      go_wp2_with fail
      refine (HP.out x _ HB.out).mono ?_
      rintro e w1 ⟨rfl, hb⟩
      have HB1 := Aside0.mk (below_step HB.out hb)
      clear hb HB hx0 hx1
      by_cases hps : p x = true
      · have hq := Aside0.mk (idx_hit p l k x HN.out hs.out hps)
        go_wp2
        go_ret
        exact ⟨ret_int hq.out.symm, HB1.out⟩
      · replace hps := Bool.eq_false_iff.mpr hps
        have hq := Aside0.mk (any_snoc l p k x hs.out)
        have hq2 : Aside0 ((l.take (k + 1)).any p = false) := ⟨by rw [hq.out, HN.out, hps]; rfl⟩
        go_wp2
        go_roundw
        case rel => exact ⟨k + 1, by omega, by go_num, hq2, HB1⟩
        case measure => simp [intOf]; omega
    · have hq := Aside0.mk (idx_miss p l (by have h := HN.out; rwa [List.take_of_length_le (by omega)] at h))
      have hd : decide ((k : Int) < (l.length : Int)) = false := by simp; omega
      go_wp2
      go_ret
      exact ⟨ret_int hq.out.symm, HB.out⟩
theorem pred27 (x : S25) (q : Int) (B : Nat) (W : World) (hc : W.cell? ⟨B, 0, none⟩ = some (.int .i64 q)) :
    Calls Try.prog 27 #[.agg #[.int .i64 x.f0, .int .i64 x.f1], .pointer (some ⟨B, 0, none⟩)] W fun e W' => e = .returned (.bool (decide (x.f1 ≤ q))) ∧ Below W.heap.size W W' := by
  have hu25 := Try.underlying25
  have HC := Aside0.mk (World.block_lt_of_cell? W _ hc)
  go_enter Try.func27, Try.ntmps27
  go_wp2_with ((with_reducible refine gate_dst (N := 2) rfl ?_); refine box_event ?hg (N := 2) ?hd (cs := #[.int .i64 x.f0, .int .i64 x.f1]) (t := 25) ?hr ?_; (case hd => rfl); (case hg => rfl); (case hr => first | (go_simp; done) | (go_simp; rfl)); intro gb hg w2 hbox hb; have HB := Aside0.mk hb; have hx0 : _ = some (Value.int .i64 x.f0) := (blk_cell hbox 0).trans rfl; have hx1 : _ = some (Value.int .i64 x.f1) := (blk_cell hbox 1).trans rfl; have hc2 := (hb.cell HC.out).trans hc; clear hg hbox hb hc HC)
  go_ret
  exact ⟨rfl, HB.out⟩
set_option maxHeartbeats 1000000 in
theorem index27 (p : S25 → Bool) (B : Nat) (A : Option Addr) (c : Nat) (l : List S25) (w : World)
    (hp : ∀ (x : S25) (W : World), Below w.heap.size w W → Calls Try.prog 27 #[.agg #[.int .i64 x.f0, .int .i64 x.f1], .pointer (some ⟨B, 0, none⟩)] W fun e W' => e = .returned (.bool (p x)) ∧ Below W.heap.size W W')
    (hr : Kd.C k25 w A l.length l) (hl : l.length ≤ 1000000) :
    Calls Try.prog 24 #[.slice A l.length c, .func (.func 27) #[] #[.pointer (some ⟨B, 0, none⟩)]] w fun e w' => e = .returned (.int .i64 (idxF p l)) ∧ Below w.heap.size w w' := by
  have HP := Aside0.mk hp
  have HR := Aside0.mk hr
  have hu25 := Try.underlying25
  clear hp hr
  go_enter Try.func24, Try.ntmps24
  go_wp2
  go_loopw [4, 5, 8] (fun _ _ i wr => ∃ k : Nat, k ≤ l.length ∧ i = .int .i64 k ∧ Aside0 ((l.take k).any p = false) ∧ Aside0 (Below w.heap.size w wr)) (fun _ _ i _ => l.length - (intOf i).toNat)
  case atStart => exact ⟨0, Nat.zero_le _, rfl, ⟨rfl⟩, ⟨Below.refl _ _⟩⟩
  case round =>
    obtain ⟨k, hk, rfl, HN, HB⟩ := hrel
    by_cases hlt : k < l.length
    · obtain ⟨ad, x, rfl, hs, hx0, hx1⟩ := fr_at (Kd.C_below HR.out HB.out) k hlt
      have hi1 : (k : Int) < (l.length : Int) := by omega
      have hi0 : (0 : Int) ≤ (k : Int) := by omega
      go_wp2_with fail
      refine (HP.out x _ HB.out).mono ?_
      rintro e w1 ⟨rfl, hb⟩
      have HB1 := Aside0.mk (below_step HB.out hb)
      clear hb HB hx0 hx1
      by_cases hps : p x = true
      · have hq := Aside0.mk (idx_hit p l k x HN.out hs.out hps)
        go_wp2
        go_ret
        exact ⟨ret_int hq.out.symm, HB1.out⟩
      · replace hps := Bool.eq_false_iff.mpr hps
        have hq := Aside0.mk (any_snoc l p k x hs.out)
        have hq2 : Aside0 ((l.take (k + 1)).any p = false) := ⟨by rw [hq.out, HN.out, hps]; rfl⟩
        go_wp2
        go_roundw
        case rel => exact ⟨k + 1, by omega, by go_num, hq2, HB1⟩
        case measure => simp [intOf]; omega
    · have hq := Aside0.mk (idx_miss p l (by have h := HN.out; rwa [List.take_of_length_le (by omega)] at h))
      have hd : decide ((k : Int) < (l.length : Int)) = false := by simp; omega
      go_wp2
      go_ret
      exact ⟨ret_int hq.out.symm, HB.out⟩
end Go.Proofs.Ytmplcceghjofhaa.PF
