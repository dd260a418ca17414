/- slices.Clone, Grow, Concat at free pages -/
import Derived.Test.YtmplcceghjofhaaHKit
namespace Go.Proofs.Ytmplcceghjofhaa.PF
open Go.RowKit Go.Proofs.YtmplcceghjofhaaW.PrintWords Go.Proofs.YtmplcceghjofhaaW.PrintLast Go.Proofs.YtmplcceghjofhaaW.PrintMore
set_option linter.unusedVariables false
set_option linter.unusedSimpArgs false
open Go.Lib in
set_option maxHeartbeats 2000000 in
set_option maxRecDepth 100000 in
theorem clone28 (A : Option Addr) (c : Nat) (l : List S25) (w : World) (hr : Kd.C k25 w A l.length l) (hl : l.length ≤ 1000000) :
    Calls Try.prog 28 #[.slice A l.length c] w fun e w' => ∃ v, e = .returned v ∧ Kd.R k25 25 w' w.heap.size (fun _ => True) v l ∧ Below w.heap.size w w' := by
  have q22 : ∀ (w : World) (a : Option Addr) (n c n' c' : Nat), (binOp .eql 22 (.slice a n c) (.slice none n' c')).run Try.prog w = .ok (.bool a.isNone) w := fun w a n c n' c' => Lib.run_eql_slice_nil w _ _ a n c n' c' Try.underlying22
  have HR := Aside0.mk hr
  clear hr
  rcases A with _ | ad
  · have hn : l = [] := by
      have := HR.out.2.2
      rcases l with _ | ⟨x, r⟩
      · rfl
      · obtain ⟨ad, h, _⟩ := this (by simp); cases h
    subst hn
    go_enter Try.func28, Try.ntmps28
    go_wp2
    go_ret
    exact ⟨_, rfl, Kd.R_nil _ _ _ _ _, Below.refl _ _⟩
  · go_enter Try.func28, Try.ntmps28
    go_wp2_with (at_builtin; refine Kd.R_append_rows k25 (w0 := w) w.heap.size rfl (.tmp 5) (.tmp 6) 22 25 (.agg #[.int .i64 0, .int .i64 0]) 16 rfl Try.underlying22 info25 rfl (by decide) (by omega) (.slice (some ⟨w.heap.size, 0, none⟩) 0 0) [] l _ _ _ (fun _ => True) (fun _ => False) rfl rfl (R_made0 w) (Kd.C_alloc HR.out _) (fun _ _ h => h) (fun _ h => h.elim) (fun _ _ => trivial) (below_alloc (Below.refl _ _) _) (by simp) (by simp; omega) ?_)
    intro v1 w1 ho hb hg hat
    go_wp2
    go_ret
    exact ⟨_, rfl, ho, hb⟩
set_option maxHeartbeats 2000000 in
set_option maxRecDepth 100000 in
theorem grow31 (n : Nat) (hn : n ≤ 100000000) (w : World) :
    Calls Try.prog 31 #[.slice none 0 0, .int .i64 n] w fun e w' => ∃ v, e = .returned v ∧ Kd.R k25 25 w' w.heap.size (fun _ => True) v [] ∧ Below w.heap.size w w' := by
  by_cases h0 : n = 0
  · subst h0
    go_enter Try.func31, Try.ntmps31
    go_wp2
    go_ret
    exact ⟨_, rfl, Kd.R_nil _ _ _ _ _, Below.refl _ _⟩
  · have hpos : decide ((0 : Int) < (n : Int)) = true := by simp; omega
    have hneg : decide ((n : Int) < 0) = false := by simp
    have hn0 : (0 : Int) ≤ (n : Int) := by omega
    go_enter Try.func31, Try.ntmps31
    go_wp2_with (at_builtin; refine Kd.R_append_zeros k25 (w0 := w) w.heap.size rfl (.tmp 20) (.tmp 21) 22 3 25 (.agg #[.int .i64 0, .int .i64 0]) 16 rfl Try.underlying22 Try.underlying3 info25 rfl (by decide) (by omega) (.slice none 0 0) [] z25 (n : Int) (fun _ => True) rfl rfl (k25_mkM _ _ _ _) (fun _ _ => trivial) (Kd.R_nil _ _ _ _ _) hn0 (Below.refl _ _) (Nat.le_refl _) (by simp; omega) ?_)
    intro v1 w1 ho hb hg hat
    obtain ⟨A1, c1, e1⟩ := Kd.R_slice ho
    subst e1
    have HO := Aside0.mk ho
    have HB := Aside0.mk hb
    clear ho hb hg hat
    go_wp2
    go_ret
    exact ⟨_, rfl, by have := Kd.R_take (m := 0) HO.out (Nat.zero_le _); simpa using this, HB.out⟩
theorem sl_at {α : Type} (e : Nat) (d : Kd α) {w : World} {A : Option Addr} {l : List (List α)} (h : Kd.C (Kd.slice e d) w A l.length l) (j : Nat) (hj : j < l.length) :
    ∃ ad A1 c1 x, A = some ad ∧ Aside0 (l[j]? = some x) ∧ w.cell? (ad.add j) = some (.slice A1 x.length c1) ∧ x.length ≤ c1 ∧ d.C w A1 x.length x := by
  obtain ⟨ad, c, e, _, hK, hc0⟩ := Kd.C_get h ([] : List α) (j : Int) (by omega) (by omega)
  have hc : ∀ i u, c[i]? = some u → w.cell? (ad.add ((j : Int).toNat * 1 + i)) = some u := hc0
  obtain ⟨A1, c1, rfl, l0, g0⟩ := hK
  have hx : rdOf [] l (j : Int) = l[j] := by simp [rdOf, hj]
  refine ⟨ad, A1, c1, l[j], e, ⟨List.getElem?_eq_getElem hj⟩, ?_, ?_, ?_⟩
  · have hq := hc 0 _ rfl
    rw [Nat.mul_one, Nat.add_zero, Int.toNat_natCast] at hq
    simpa [hj] using hq
  · simpa [hj] using l0
  · simpa [hj] using g0
def tot {α : Type} (l : List (List α)) (j : Nat) : Nat := ((l.take j).map List.length).sum
theorem tot_succ {α : Type} (l : List (List α)) (j : Nat) (x : List α) (h : l[j]? = some x) : tot l (j + 1) = tot l j + x.length := by
  unfold tot; rw [List.take_add_one, h]; simp
theorem tot_le {α : Type} (l : List (List α)) (m : Nat) (h : ∀ x ∈ l, x.length ≤ m) (j : Nat) (hj : j ≤ l.length) : tot l j ≤ j * m := by
  induction j with
  | zero => simp [tot]
  | succ j ih =>
    have h1 := ih (by omega)
    have h2 := h l[j] (List.getElem_mem (by omega))
    rw [tot_succ l j l[j] (List.getElem?_eq_getElem (by omega)), Nat.add_mul]
    omega
theorem flat_succ {α : Type} (l : List (List α)) (j : Nat) (x : List α) (h : l[j]? = some x) : (l.take (j + 1)).flatten = (l.take j).flatten ++ x := by
  rw [List.take_add_one, h]; simp
theorem flat_len {α : Type} (l : List (List α)) (j : Nat) : (l.take j).flatten.length = tot l j := by unfold tot; rw [List.length_flatten]
/-- What slices.Concat answers. -/
def concat26.f (l0 : List (List S25)) : Option (List S25) := if l0.length ≤ 100 ∧ ∀ x ∈ l0, x.length ≤ 100000 then some l0.flatten else none
set_option maxHeartbeats 4000000 in
set_option maxRecDepth 100000 in
theorem concat26.calls (A0 : Option Addr) (c0 : Nat) (l0 : List (List S25)) (r : List S25) (w : World) (hr0 : Kd.C (Kd.slice 25 k25) w A0 l0.length l0) (hc0 : l0.length ≤ c0) (h : concat26.f l0 = some r) :
    Calls Try.prog 26 #[.slice A0 l0.length c0] w fun e w' => ∃ v0_ : Value, e = .returned (v0_) ∧ Kd.R k25 25 w' w.heap.size (fun _ => True) v0_ r ∧ Below w.heap.size w w' := by
  unfold concat26.f at h
  split at h
  case isFalse => cases h
  rename_i hsz
  obtain ⟨hl, hx⟩ := hsz
  obtain rfl := Option.some.inj h
  have HX := Aside0.mk hx
  have H0 := Aside0.mk hr0
  have hT := Aside0.mk (tot_le l0 100000 hx)
  clear h hx hr0
  go_enter Try.func26, Try.ntmps26
  go_wp2_with fail
  go_loop [3, 11] (fun s3 s11 => ∃ j : Nat, j ≤ l0.length ∧ s11 = .int .i64 j ∧ s3 = .int .i64 (tot l0 j)) (fun _ i => l0.length - (intOf i).toNat)
  case atStart => exact ⟨0, Nat.zero_le _, rfl, rfl⟩
  case round =>
    obtain ⟨j, hj, rfl, rfl⟩ := hrel
    have htj := hT.out j hj
    have htj2 : tot l0 j ≤ 10000000 := by omega
    by_cases hjl : j < l0.length
    · have hd : decide ((j : Int) < (l0.length : Int)) = true := by simp; omega
      have hd2 : (j : Int) < (l0.length : Int) := by omega
      have hd3 : (0 : Int) ≤ (j : Int) := by omega
      obtain ⟨ad, A1, c1, x, hA, hs, hcell, hle, hC⟩ := sl_at 25 k25 H0.out j hjl
      have HC := Aside0.mk hC
      have hxl : x.length ≤ 100000 := HX.out x (by obtain ⟨hh, he⟩ := List.getElem?_eq_some_iff.1 hs.out; rw [← he]; exact List.getElem_mem _)
      clear hC
      subst hA
      have hneg : ¬ ((tot l0 j : Int) + (x.length : Int) < 0) := by omega
      have hneg2 : decide ((tot l0 j : Int) + (x.length : Int) < 0) = false := by simp; omega
      have hsum := Aside0.mk (tot_succ l0 j x hs.out)
      go_wp2_with fail
      go_round
      case rel => exact ⟨j + 1, by omega, by go_num, by rw [hsum.out]; go_num⟩
      case measure => simp [intOf]; omega
    · obtain rfl : j = l0.length := by omega
      have hd : decide ((l0.length : Int) < (l0.length : Int)) = false := by simp
      have htn : tot l0 l0.length ≤ 100000000 := by omega
      go_wp2_with fail
      refine (grow31 (tot l0 l0.length) htn _).mono ?_
      rintro e w1 ⟨v1, rfl, ho, hb⟩
      have HO := Aside0.mk ho
      have HB := Aside0.mk hb
      clear ho hb
      go_wp2_with fail
      go_loopw [6, 27] (fun s6 s27 wr => ∃ i : Nat, i ≤ l0.length ∧ s27 = .int .i64 i ∧ Aside0 (Kd.R k25 25 wr w.heap.size (fun _ => True) s6 (l0.take i).flatten) ∧ Aside0 (Below w.heap.size w wr)) (fun _ i wr => l0.length - (intOf i).toNat)
      case atStart => exact ⟨0, Nat.zero_le _, rfl, HO, HB⟩
      case round =>
        clear HO HB
        obtain ⟨i, hi, rfl, HO, HB⟩ := hrel
        obtain ⟨A6, c6, e6⟩ := Kd.R_slice HO.out
        subst e6
        have hti := hT.out i hi
        have hti2 : tot l0 i ≤ 10000000 := by omega
        by_cases hil : i < l0.length
        · have hd : decide ((i : Int) < (l0.length : Int)) = true := by simp; omega
          have hd2 : (i : Int) < (l0.length : Int) := by omega
          have hd3 : (0 : Int) ≤ (i : Int) := by omega
          obtain ⟨ad, A1, c1, x, hA, hs, hcell, hle, hC⟩ := sl_at 25 k25 (Kd.C_below H0.out HB.out) i hil
          have HC := Aside0.mk hC
          have hxl : x.length ≤ 100000 := HX.out x (by obtain ⟨hh, he⟩ := List.getElem?_eq_some_iff.1 hs.out; rw [← he]; exact List.getElem_mem _)
          clear hC
          subst hA
          go_wp2_with (at_builtin; refine Kd.R_append_rows k25 (w0 := w) w.heap.size rfl (.tmp 31) (.tmp 32) 22 25 (.agg #[.int .i64 0, .int .i64 0]) 16 rfl Try.underlying22 info25 rfl (by decide) (by omega) (.slice A6 (l0.take i).flatten.length c6) (l0.take i).flatten x _ _ _ (fun _ => True) (fun _ => False) rfl rfl HO.out HC.out (fun _ _ h => h) (fun _ h => h.elim) (fun _ _ => trivial) HB.out (below_size HB.out) (by rw [flat_len]; omega) ?_)
          intro v2 w2 ho hb hg hat
          have HO2 := Aside0.mk ho
          have HB2 := Aside0.mk hb
          clear ho hb hg hat HO HB
          go_wp2_with fail
          go_roundw
          case rel => exact ⟨i + 1, by omega, by go_num, ⟨by rw [flat_succ l0 i x hs.out]; exact HO2.out⟩, HB2⟩
          case measure => simp [intOf]; omega
        · obtain rfl : i = l0.length := by omega
          have hd : decide ((l0.length : Int) < (l0.length : Int)) = false := by simp
          go_wp2_with fail
          go_ret
          exact ⟨_, rfl, by have := HO.out; rw [List.take_length] at this ⊢; exact this, HB.out⟩

section
variable {α : Type} {e : Nat} {d : Kd α} {W : World} {g t : Nat}
theorem C_two {A1 A2 : Option Addr} {c1 c2 : Nat} {l1 l2 : List α} (hb : W.heap[g]? = some (.cells #[.slice A1 l1.length c1, .slice A2 l2.length c2] t (0, 0)))
    (h1 : d.C W A1 l1.length l1) (hc1 : l1.length ≤ c1) (h2 : d.C W A2 l2.length l2) (hc2 : l2.length ≤ c2) : Kd.C (Kd.slice e d) W (some ⟨g, 0, none⟩) 2 [l1, l2] := by
  refine ⟨rfl, by omega, fun _ => ⟨_, rfl, fun j p hj => ?_⟩⟩
  match j, hj with
  | 0, hj =>
    simp at hj; subst hj
    refine ⟨[.slice A1 l1.length c1], rfl, ⟨A1, c1, rfl, hc1, h1⟩, fun i u hu => ?_⟩
    match i, hu with
    | 0, hu => simp at hu; subst hu; exact (blk_cell hb 0).trans rfl
  | 1, hj =>
    simp at hj; subst hj
    refine ⟨[.slice A2 l2.length c2], rfl, ⟨A2, c2, rfl, hc2, h2⟩, fun i u hu => ?_⟩
    match i, hu with
    | 0, hu => simp at hu; subst hu; exact (blk_cell hb 1).trans rfl
theorem C_three {A1 A2 A3 : Option Addr} {c1 c2 c3 : Nat} {l1 l2 l3 : List α} (hb : W.heap[g]? = some (.cells #[.slice A1 l1.length c1, .slice A2 l2.length c2, .slice A3 l3.length c3] t (0, 0)))
    (h1 : d.C W A1 l1.length l1) (hc1 : l1.length ≤ c1) (h2 : d.C W A2 l2.length l2) (hc2 : l2.length ≤ c2) (h3 : d.C W A3 l3.length l3) (hc3 : l3.length ≤ c3) : Kd.C (Kd.slice e d) W (some ⟨g, 0, none⟩) 3 [l1, l2, l3] := by
  refine ⟨rfl, by omega, fun _ => ⟨_, rfl, fun j p hj => ?_⟩⟩
  match j, hj with
  | 0, hj =>
    simp at hj; subst hj
    refine ⟨[.slice A1 l1.length c1], rfl, ⟨A1, c1, rfl, hc1, h1⟩, fun i u hu => ?_⟩
    match i, hu with
    | 0, hu => simp at hu; subst hu; exact (blk_cell hb 0).trans rfl
  | 1, hj =>
    simp at hj; subst hj
    refine ⟨[.slice A2 l2.length c2], rfl, ⟨A2, c2, rfl, hc2, h2⟩, fun i u hu => ?_⟩
    match i, hu with
    | 0, hu => simp at hu; subst hu; exact (blk_cell hb 1).trans rfl
  | 2, hj =>
    simp at hj; subst hj
    refine ⟨[.slice A3 l3.length c3], rfl, ⟨A3, c3, rfl, hc3, h3⟩, fun i u hu => ?_⟩
    match i, hu with
    | 0, hu => simp at hu; subst hu; exact (blk_cell hb 2).trans rfl
theorem C_str1 {key : ByteArray} (hb : W.heap[g]? = some (.cells #[.string key] t (0, 0))) : Kd.C Kd.string W (some ⟨g, 0, none⟩) 1 [key] := by
  refine ⟨rfl, by omega, fun _ => ⟨_, rfl, fun j p hj => ?_⟩⟩
  match j, hj with
  | 0, hj =>
    simp at hj; subst hj
    refine ⟨[.string key], rfl, rfl, fun i u hu => ?_⟩
    match i, hu with
    | 0, hu => simp at hu; subst hu; exact (blk_cell hb 0).trans rfl
end
theorem cat2f {W : World} {g t : Nat} {A1 A2 : Option Addr} {c1 c2 : Nat} {l1 l2 : List S25} (hb : W.heap[g]? = some (.cells #[.slice A1 l1.length c1, .slice A2 l2.length c2] t (0, 0)))
    (h1 : k25.C W A1 l1.length l1) (hc1 : l1.length ≤ c1) (h2 : k25.C W A2 l2.length l2) (hc2 : l2.length ≤ c2) (n1 : l1.length ≤ 100000) (n2 : l2.length ≤ 100000) :
    Calls Try.prog 26 #[.slice (some ⟨g, 0, none⟩) 2 2] W fun e W' => ∃ A n c, e = .returned (.slice A n c) ∧ k25.R 25 W' W.heap.size (fun _ => True) (.slice A n c) (l1 ++ l2) ∧ Below W.heap.size W W' := by
  refine (concat26.calls (some ⟨g, 0, none⟩) 2 [l1, l2] (l1 ++ l2) W (C_two hb h1 hc1 h2 hc2) (Nat.le_refl 2) ?_).mono ?_
  · unfold concat26.f
    rw [if_pos ⟨by simp, by intro x hx; simp at hx; rcases hx with rfl | rfl <;> assumption⟩]
    simp
  · rintro e W' ⟨v, rfl, ho, hb2⟩
    obtain ⟨A, c, rfl⟩ := Kd.R_slice ho
    exact ⟨A, _, c, rfl, ho, hb2⟩
theorem cat3f {W : World} {g t : Nat} {A1 A2 A3 : Option Addr} {c1 c2 c3 : Nat} {l1 l2 l3 : List S25} (hb : W.heap[g]? = some (.cells #[.slice A1 l1.length c1, .slice A2 l2.length c2, .slice A3 l3.length c3] t (0, 0)))
    (h1 : k25.C W A1 l1.length l1) (hc1 : l1.length ≤ c1) (h2 : k25.C W A2 l2.length l2) (hc2 : l2.length ≤ c2) (h3 : k25.C W A3 l3.length l3) (hc3 : l3.length ≤ c3) (n1 : l1.length ≤ 100000) (n2 : l2.length ≤ 100000) (n3 : l3.length ≤ 100000) :
    Calls Try.prog 26 #[.slice (some ⟨g, 0, none⟩) 3 3] W fun e W' => ∃ A n c, e = .returned (.slice A n c) ∧ k25.R 25 W' W.heap.size (fun _ => True) (.slice A n c) (l1 ++ l2 ++ l3) ∧ Below W.heap.size W W' := by
  refine (concat26.calls (some ⟨g, 0, none⟩) 3 [l1, l2, l3] (l1 ++ l2 ++ l3) W (C_three hb h1 hc1 h2 hc2 h3 hc3) (Nat.le_refl 3) ?_).mono ?_
  · unfold concat26.f
    rw [if_pos ⟨by simp, by intro x hx; simp at hx; rcases hx with rfl | rfl | rfl <;> assumption⟩]
    simp
  · rintro e W' ⟨v, rfl, ho, hb2⟩
    obtain ⟨A, c, rfl⟩ := Kd.R_slice ho
    exact ⟨A, _, c, rfl, ho, hb2⟩
end Go.Proofs.Ytmplcceghjofhaa.PF
