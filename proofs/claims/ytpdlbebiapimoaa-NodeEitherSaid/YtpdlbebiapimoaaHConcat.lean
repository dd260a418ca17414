/- slices.Concat joins rows -/
import Derived.Test.YtpdlbebiapimoaaHCopy
namespace Go.Proofs.Ytpdlbebiapimoaa.PN
open Go.RowKit Go.Proofs.YtpdlbebiapimoaaW.PrintWords Go.Proofs.YtpdlbebiapimoaaW.PrintLast Go.Proofs.YtpdlbebiapimoaaW.PrintMore
set_option linter.unusedVariables false
set_option linter.unusedSimpArgs false
set_option maxHeartbeats 2000000 in
set_option maxRecDepth 100000 in
theorem grow53 (n : Nat) (hn : n ≤ 100000000) (w : World) :
    Calls Try.prog 53 #[.slice none 0 0, .int .i64 n] w fun e w' => ∃ v, e = .returned v ∧ Kd.R Kd.string 9 w' w.heap.size (fun _ => True) v [] ∧ Below w.heap.size w w' := by
  by_cases h0 : n = 0
  · subst h0
    go_enter Try.func53, Try.ntmps53
    go_wp2
    go_ret
    exact ⟨_, rfl, Kd.R_nil _ _ _ _ _, Below.refl _ _⟩
  · have hpos : decide ((0 : Int) < (n : Int)) = true := by simp; omega
    have hneg : decide ((n : Int) < 0) = false := by simp
    have hn0 : (0 : Int) ≤ (n : Int) := by omega
    go_enter Try.func53, Try.ntmps53
    go_wp2_with (at_builtin; refine Kd.R_append_zeros Kd.string (w0 := w) w.heap.size rfl (.tmp 20) (.tmp 21) 22 3 9 (.string ⟨#[]⟩) 16 rfl Try.underlying22 Try.underlying3 info9 rfl (by decide) (by omega) (.slice none 0 0) [] ⟨#[]⟩ (n : Int) (fun _ => True) rfl rfl rfl (fun _ _ => trivial) (Kd.R_nil _ _ _ _ _) hn0 (Below.refl _ _) (Nat.le_refl _) (by simp; omega) ?_)
    intro v1 w1 ho hb hg hat
    obtain ⟨A1, c1, e1⟩ := Kd.R_slice ho
    subst e1
    have HO := Aside0.mk ho
    have HB := Aside0.mk hb
    clear ho hb hg hat
    go_wp2
    go_ret
    exact ⟨_, rfl, by have := Kd.R_take (m := 0) HO.out (Nat.zero_le _); simpa using this, HB.out⟩
set_option maxHeartbeats 2000000 in
set_option maxRecDepth 100000 in
theorem grow54 (n : Nat) (hn : n ≤ 100000000) (w : World) :
    Calls Try.prog 54 #[.slice none 0 0, .int .i64 n] w fun e w' => ∃ v, e = .returned v ∧ Kd.R (Kd.int .i64) 3 w' w.heap.size (fun _ => True) v [] ∧ Below w.heap.size w w' := by
  by_cases h0 : n = 0
  · subst h0
    go_enter Try.func54, Try.ntmps54
    go_wp2
    go_ret
    exact ⟨_, rfl, Kd.R_nil _ _ _ _ _, Below.refl _ _⟩
  · have hpos : decide ((0 : Int) < (n : Int)) = true := by simp; omega
    have hneg : decide ((n : Int) < 0) = false := by simp
    have hn0 : (0 : Int) ≤ (n : Int) := by omega
    go_enter Try.func54, Try.ntmps54
    go_wp2_with (at_builtin; refine Kd.R_append_zeros (Kd.int .i64) (w0 := w) w.heap.size rfl (.tmp 20) (.tmp 21) 23 3 3 (.int .i64 0) 8 rfl Try.underlying23 Try.underlying3 info3 rfl (by decide) (by omega) (.slice none 0 0) [] (0 : Int) (n : Int) (fun _ => True) rfl rfl rfl (fun _ _ => trivial) (Kd.R_nil _ _ _ _ _) hn0 (Below.refl _ _) (Nat.le_refl _) (by simp; omega) ?_)
    intro v1 w1 ho hb hg hat
    obtain ⟨A1, c1, e1⟩ := Kd.R_slice ho
    subst e1
    have HO := Aside0.mk ho
    have HB := Aside0.mk hb
    clear ho hb hg hat
    go_wp2
    go_ret
    exact ⟨_, rfl, by have := Kd.R_take (m := 0) HO.out (Nat.zero_le _); simpa using this, HB.out⟩
theorem sl_at {α : Type} (e : Nat) (d : Kd α) {w : World} {A : Option Addr} {l : List (List α)} (h : Kd.C (Kd.slice e d) w A l.length l) (j : Nat) (hj : j < l.length) :
    ∃ ad A1 c1 x, A = some ad ∧ Aside0 (l[j]? = some x) ∧ w.cell? (ad.add j) = some (.slice A1 x.length c1) ∧ x.length ≤ c1 ∧ d.C w A1 x.length x := by
  obtain ⟨ad, c, e, _, hK, hc0⟩ := Kd.C_get h ([] : List α) (j : Int) (by omega) (by omega)
  have hc : ∀ i u, c[i]? = some u → w.cell? (ad.add ((j : Int).toNat * 1 + i)) = some u := hc0
  obtain ⟨A1, c1, rfl, l0, g0⟩ := hK
  have hx : rdOf [] l (j : Int) = l[j] := by simp [rdOf, hj]
  refine ⟨ad, A1, c1, l[j], e, ⟨List.getElem?_eq_getElem hj⟩, ?_, ?_, ?_⟩
  · have hq := hc 0 _ rfl
    rw [Nat.mul_one, Nat.add_zero, Int.toNat_natCast] at hq
    simpa [hj] using hq
  · simpa [hj] using l0
  · simpa [hj] using g0
def tot {α : Type} (l : List (List α)) (j : Nat) : Nat := ((l.take j).map List.length).sum
theorem tot_succ {α : Type} (l : List (List α)) (j : Nat) (x : List α) (h : l[j]? = some x) : tot l (j + 1) = tot l j + x.length := by
  unfold tot; rw [List.take_add_one, h]; simp
theorem tot_le {α : Type} (l : List (List α)) (m : Nat) (h : ∀ x ∈ l, x.length ≤ m) (j : Nat) (hj : j ≤ l.length) : tot l j ≤ j * m := by
  induction j with
  | zero => simp [tot]
  | succ j ih =>
    have h1 := ih (by omega)
    have h2 := h l[j] (List.getElem_mem (by omega))
    rw [tot_succ l j l[j] (List.getElem?_eq_getElem (by omega)), Nat.add_mul]
    omega
theorem flat_succ {α : Type} (l : List (List α)) (j : Nat) (x : List α) (h : l[j]? = some x) : (l.take (j + 1)).flatten = (l.take j).flatten ++ x := by
  rw [List.take_add_one, h]; simp
theorem flat_len {α : Type} (l : List (List α)) (j : Nat) : (l.take j).flatten.length = tot l j := by unfold tot; rw [List.length_flatten]
set_option maxHeartbeats 4000000 in
set_option maxRecDepth 100000 in
theorem slices_Concat_string_string.calls (A0 : Option Addr) (c0 : Nat) (l0 : List (List ByteArray)) (r : List ByteArray) (w : World) (hr0 : Kd.C (Kd.slice 9 Kd.string) w A0 l0.length l0) (hc0 : l0.length ≤ c0) (h : slices_Concat_string_string.f l0 = some r) :
    Calls Try.prog 46 #[.slice A0 l0.length c0] w fun e w' => ∃ v0_ : Value, e = .returned (v0_) ∧ Kd.R Kd.string 9 w' w.heap.size (fun _ => True) v0_ r ∧ Below w.heap.size w w' := by
  unfold slices_Concat_string_string.f at h
  split at h
  case isFalse => cases h
  rename_i hsz
  obtain ⟨hl, hx⟩ := hsz
  obtain rfl := Option.some.inj h
  have HX := Aside0.mk hx
  have H0 := Aside0.mk hr0
  have hT := Aside0.mk (tot_le l0 100000 hx)
  clear h hx hr0
  go_enter Try.func46, Try.ntmps46
  go_wp2_with fail
  go_loop [3, 11] (fun s3 s11 => ∃ j : Nat, j ≤ l0.length ∧ s11 = .int .i64 j ∧ s3 = .int .i64 (tot l0 j)) (fun _ i => l0.length - (intOf i).toNat)
  case atStart => exact ⟨0, Nat.zero_le _, rfl, rfl⟩
  case round =>
    obtain ⟨j, hj, rfl, rfl⟩ := hrel
    have htj := hT.out j hj
    have htj2 : tot l0 j ≤ 10000000 := by omega
    by_cases hjl : j < l0.length
    · have hd : decide ((j : Int) < (l0.length : Int)) = true := by simp; omega
      have hd2 : (j : Int) < (l0.length : Int) := by omega
      have hd3 : (0 : Int) ≤ (j : Int) := by omega
      obtain ⟨ad, A1, c1, x, hA, hs, hcell, hle, hC⟩ := sl_at 9 Kd.string H0.out j hjl
      have HC := Aside0.mk hC
      have hxl : x.length ≤ 100000 := HX.out x (by obtain ⟨hh, he⟩ := List.getElem?_eq_some_iff.1 hs.out; rw [← he]; exact List.getElem_mem _)
      clear hC
      subst hA
      have hneg : ¬ ((tot l0 j : Int) + (x.length : Int) < 0) := by omega
      have hneg2 : decide ((tot l0 j : Int) + (x.length : Int) < 0) = false := by simp; omega
      have hsum := Aside0.mk (tot_succ l0 j x hs.out)
      go_wp2_with fail
      go_round
      case rel => exact ⟨j + 1, by omega, by go_num, by rw [hsum.out]; go_num⟩
      case measure => simp [intOf]; omega
    · obtain rfl : j = l0.length := by omega
      have hd : decide ((l0.length : Int) < (l0.length : Int)) = false := by simp
      have htn : tot l0 l0.length ≤ 100000000 := by omega
      go_wp2_with fail
      refine (grow53 (tot l0 l0.length) htn _).mono ?_
      rintro e w1 ⟨v1, rfl, ho, hb⟩
      have HO := Aside0.mk ho
      have HB := Aside0.mk hb
      clear ho hb
      go_wp2_with fail
      go_loopw [6, 27] (fun s6 s27 wr => ∃ i : Nat, i ≤ l0.length ∧ s27 = .int .i64 i ∧ Aside0 (Kd.R Kd.string 9 wr w.heap.size (fun _ => True) s6 (l0.take i).flatten) ∧ Aside0 (Below w.heap.size w wr)) (fun _ i wr => l0.length - (intOf i).toNat)
      case atStart => exact ⟨0, Nat.zero_le _, rfl, HO, HB⟩
      case round =>
        clear HO HB
        obtain ⟨i, hi, rfl, HO, HB⟩ := hrel
        obtain ⟨A6, c6, e6⟩ := Kd.R_slice HO.out
        subst e6
        have hti := hT.out i hi
        have hti2 : tot l0 i ≤ 10000000 := by omega
        by_cases hil : i < l0.length
        · have hd : decide ((i : Int) < (l0.length : Int)) = true := by simp; omega
          have hd2 : (i : Int) < (l0.length : Int) := by omega
          have hd3 : (0 : Int) ≤ (i : Int) := by omega
          obtain ⟨ad, A1, c1, x, hA, hs, hcell, hle, hC⟩ := sl_at 9 Kd.string (Kd.C_below H0.out HB.out) i hil
          have HC := Aside0.mk hC
          have hxl : x.length ≤ 100000 := HX.out x (by obtain ⟨hh, he⟩ := List.getElem?_eq_some_iff.1 hs.out; rw [← he]; exact List.getElem_mem _)
          clear hC
          subst hA
          go_wp2_with (at_builtin; refine Kd.R_append_rows Kd.string (w0 := w) w.heap.size rfl (.tmp 31) (.tmp 32) 22 9 (.string ⟨#[]⟩) 16 rfl Try.underlying22 info9 rfl (by decide) (by omega) (.slice A6 (l0.take i).flatten.length c6) (l0.take i).flatten x _ _ _ (fun _ => True) (fun _ => False) rfl rfl HO.out HC.out (fun _ _ h => h) (fun _ h => h.elim) (fun _ _ => trivial) HB.out (below_size HB.out) (by rw [flat_len]; omega) ?_)
          intro v2 w2 ho hb hg hat
          have HO2 := Aside0.mk ho
          have HB2 := Aside0.mk hb
          clear ho hb hg hat HO HB
          go_wp2_with fail
          go_roundw
          case rel => exact ⟨i + 1, by omega, by go_num, ⟨by rw [flat_succ l0 i x hs.out]; exact HO2.out⟩, HB2⟩
          case measure => simp [intOf]; omega
        · obtain rfl : i = l0.length := by omega
          have hd : decide ((l0.length : Int) < (l0.length : Int)) = false := by simp
          go_wp2_with fail
          go_ret
          exact ⟨_, rfl, by have := HO.out; rw [List.take_length] at this ⊢; exact this, HB.out⟩

set_option maxHeartbeats 4000000 in
set_option maxRecDepth 100000 in
theorem slices_Concat_int_int.calls (A0 : Option Addr) (c0 : Nat) (l0 : List (List Int)) (r : List Int) (w : World) (hr0 : Kd.C (Kd.slice 3 (Kd.int .i64)) w A0 l0.length l0) (hc0 : l0.length ≤ c0) (h : slices_Concat_int_int.f l0 = some r) :
    Calls Try.prog 47 #[.slice A0 l0.length c0] w fun e w' => ∃ v0_ : Value, e = .returned (v0_) ∧ Kd.R (Kd.int .i64) 3 w' w.heap.size (fun _ => True) v0_ r ∧ Below w.heap.size w w' := by
  unfold slices_Concat_int_int.f at h
  split at h
  case isFalse => cases h
  rename_i hsz
  obtain ⟨hl, hx⟩ := hsz
  obtain rfl := Option.some.inj h
  have HX := Aside0.mk hx
  have H0 := Aside0.mk hr0
  have hT := Aside0.mk (tot_le l0 100000 hx)
  clear h hx hr0
  go_enter Try.func47, Try.ntmps47
  go_wp2_with fail
  go_loop [3, 11] (fun s3 s11 => ∃ j : Nat, j ≤ l0.length ∧ s11 = .int .i64 j ∧ s3 = .int .i64 (tot l0 j)) (fun _ i => l0.length - (intOf i).toNat)
  case atStart => exact ⟨0, Nat.zero_le _, rfl, rfl⟩
  case round =>
    obtain ⟨j, hj, rfl, rfl⟩ := hrel
    have htj := hT.out j hj
    have htj2 : tot l0 j ≤ 10000000 := by omega
    by_cases hjl : j < l0.length
    · have hd : decide ((j : Int) < (l0.length : Int)) = true := by simp; omega
      have hd2 : (j : Int) < (l0.length : Int) := by omega
      have hd3 : (0 : Int) ≤ (j : Int) := by omega
      obtain ⟨ad, A1, c1, x, hA, hs, hcell, hle, hC⟩ := sl_at 3 (Kd.int .i64) H0.out j hjl
      have HC := Aside0.mk hC
      have hxl : x.length ≤ 100000 := HX.out x (by obtain ⟨hh, he⟩ := List.getElem?_eq_some_iff.1 hs.out; rw [← he]; exact List.getElem_mem _)
      clear hC
      subst hA
      have hneg : ¬ ((tot l0 j : Int) + (x.length : Int) < 0) := by omega
      have hneg2 : decide ((tot l0 j : Int) + (x.length : Int) < 0) = false := by simp; omega
      have hsum := Aside0.mk (tot_succ l0 j x hs.out)
      go_wp2_with fail
      go_round
      case rel => exact ⟨j + 1, by omega, by go_num, by rw [hsum.out]; go_num⟩
      case measure => simp [intOf]; omega
    · obtain rfl : j = l0.length := by omega
      have hd : decide ((l0.length : Int) < (l0.length : Int)) = false := by simp
      have htn : tot l0 l0.length ≤ 100000000 := by omega
      go_wp2_with fail
      refine (grow54 (tot l0 l0.length) htn _).mono ?_
      rintro e w1 ⟨v1, rfl, ho, hb⟩
      have HO := Aside0.mk ho
      have HB := Aside0.mk hb
      clear ho hb
      go_wp2_with fail
      go_loopw [6, 27] (fun s6 s27 wr => ∃ i : Nat, i ≤ l0.length ∧ s27 = .int .i64 i ∧ Aside0 (Kd.R (Kd.int .i64) 3 wr w.heap.size (fun _ => True) s6 (l0.take i).flatten) ∧ Aside0 (Below w.heap.size w wr)) (fun _ i wr => l0.length - (intOf i).toNat)
      case atStart => exact ⟨0, Nat.zero_le _, rfl, HO, HB⟩
      case round =>
        clear HO HB
        obtain ⟨i, hi, rfl, HO, HB⟩ := hrel
        obtain ⟨A6, c6, e6⟩ := Kd.R_slice HO.out
        subst e6
        have hti := hT.out i hi
        have hti2 : tot l0 i ≤ 10000000 := by omega
        by_cases hil : i < l0.length
        · have hd : decide ((i : Int) < (l0.length : Int)) = true := by simp; omega
          have hd2 : (i : Int) < (l0.length : Int) := by omega
          have hd3 : (0 : Int) ≤ (i : Int) := by omega
          obtain ⟨ad, A1, c1, x, hA, hs, hcell, hle, hC⟩ := sl_at 3 (Kd.int .i64) (Kd.C_below H0.out HB.out) i hil
          have HC := Aside0.mk hC
          have hxl : x.length ≤ 100000 := HX.out x (by obtain ⟨hh, he⟩ := List.getElem?_eq_some_iff.1 hs.out; rw [← he]; exact List.getElem_mem _)
          clear hC
          subst hA
          go_wp2_with (at_builtin; refine Kd.R_append_rows (Kd.int .i64) (w0 := w) w.heap.size rfl (.tmp 31) (.tmp 32) 23 3 (.int .i64 0) 8 rfl Try.underlying23 info3 rfl (by decide) (by omega) (.slice A6 (l0.take i).flatten.length c6) (l0.take i).flatten x _ _ _ (fun _ => True) (fun _ => False) rfl rfl HO.out HC.out (fun _ _ h => h) (fun _ h => h.elim) (fun _ _ => trivial) HB.out (below_size HB.out) (by rw [flat_len]; omega) ?_)
          intro v2 w2 ho hb hg hat
          have HO2 := Aside0.mk ho
          have HB2 := Aside0.mk hb
          clear ho hb hg hat HO HB
          go_wp2_with fail
          go_roundw
          case rel => exact ⟨i + 1, by omega, by go_num, ⟨by rw [flat_succ l0 i x hs.out]; exact HO2.out⟩, HB2⟩
          case measure => simp [intOf]; omega
        · obtain rfl : i = l0.length := by omega
          have hd : decide ((l0.length : Int) < (l0.length : Int)) = false := by simp
          go_wp2_with fail
          go_ret
          exact ⟨_, rfl, by have := HO.out; rw [List.take_length] at this ⊢; exact this, HB.out⟩


end Go.Proofs.Ytpdlbebiapimoaa.PN
