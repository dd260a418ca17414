-- Written for this claim by hprint.py, a program of this session over the kit's printer; Lean checks it.
import Derived.Test.YtpdlbebiapimoaaPN0
import Derived.Test.YtpdlbebiapimoaaPN1
import Derived.Test.YtpdlbebiapimoaaPN2
import Derived.Test.YtpdlbebiapimoaaHCheck
import Derived.Test.YtpdlbebiapimoaaHFind
namespace Go.Proofs.Ytpdlbebiapimoaa.PN
open Go.RowKit Go.Proofs.YtpdlbebiapimoaaW.PrintWords Go.Proofs.YtpdlbebiapimoaaW.PrintLast Go.Proofs.YtpdlbebiapimoaaW.PrintMore
attribute [local go_sem] max2_int min2_int max_two min_two max_three min_three max_four min_four   -- for this text's walks alone
set_option linter.unusedVariables false
set_option linter.unusedSimpArgs false

/-! ### lunetteref01_Same: function 21 -/
def lunetteref01_Same.l0 : Nat → List ByteArray → List ByteArray → Int → Option (Bool)
  | 0, _, _, _ => none
  | k + 1, x0, x1, x5 => if x5 < (x0.length : Int) then (if 0 ≤ x5 then (if x5 < (x1.length : Int) then (if (rdOf ByteArray.empty x0 x5).toList = (rdOf ByteArray.empty x1 x5).toList then (lunetteref01_Same.l0 k x0 x1 (wrap64 (x5 + 1))) else (some false)) else (none)) else (none)) else (some true)
def lunetteref01_Same.f (k : Nat) (l0 : List ByteArray) (l1 : List ByteArray) : Option (Bool) := if (l0.length : Int) = (l1.length : Int) then (lunetteref01_Same.l0 k l0 l1 0) else (some false)
theorem lunetteref01_Same.mono_l : ∀ k, (∀ y0 y1 y2, LeO (lunetteref01_Same.l0 k y0 y1 y2) (lunetteref01_Same.l0 (k + 1) y0 y1 y2))
  | 0 => fun _ _ _ r h => by simp [lunetteref01_Same.l0] at h
  | k + 1 => by
    have ih0 := lunetteref01_Same.mono_l k
    · intro y0 y1 y2
      unfold lunetteref01_Same.l0
      repeat' first
      | (with_reducible exact ih0 _ _ _)
      | (with_reducible exact LeO.refl _)
      | (with_reducible exact LeO.none _)
      | (with_reducible refine LeO.ite ?_ ?_)
      | (with_reducible refine LeO.bind ?_ (fun _ => ?_))
      | exact ih0 _ _ _
      | exact LeO.none _
      | refine LeO.ite ?_ ?_
      | refine LeO.bind ?_ (fun _ => ?_)
theorem lunetteref01_Same.mono : ∀ a0 a1 k, LeO (lunetteref01_Same.f k a0 a1) (lunetteref01_Same.f (k + 1) a0 a1) := by
  intro a0 a1 k
  have ih0 := lunetteref01_Same.mono_l k
  unfold lunetteref01_Same.f
  repeat' first
      | (with_reducible exact ih0 _ _ _)
      | (with_reducible exact LeO.refl _)
      | (with_reducible exact LeO.none _)
      | (with_reducible refine LeO.ite ?_ ?_)
      | (with_reducible refine LeO.bind ?_ (fun _ => ?_))
      | exact ih0 _ _ _
      | exact LeO.none _
      | refine LeO.ite ?_ ?_
      | refine LeO.bind ?_ (fun _ => ?_)
set_option maxHeartbeats 8000000 in
set_option maxRecDepth 100000 in
theorem lunetteref01_Same.calls (k : Nat) (A0 : Option Addr) (c0 : Nat) (l0 : List ByteArray) (A1 : Option Addr) (c1 : Nat) (l1 : List ByteArray) (r : Bool) (w : World) (hr0 : Kd.C Kd.string w A0 l0.length l0) (hc0 : l0.length ≤ c0) (hr1 : Kd.C Kd.string w A1 l1.length l1) (hc1 : l1.length ≤ c1) (h : lunetteref01_Same.f k l0 l1 = some r) :
    Calls Try.prog 21 #[.slice A0 l0.length c0, .slice A1 l1.length c1] w fun e w' => e = .returned (.bool r) ∧ Drawn0 w w' := by
  have HR0 := Aside0.mk hr0
  have HC0 := Aside0.mk hc0
  clear hr0 hc0
  have HR1 := Aside0.mk hr1
  have HC1 := Aside0.mk hc1
  clear hr1 hc1
  have H : (if (l0.length : Int) = (l1.length : Int) then (lunetteref01_Same.l0 k l0 l1 0) else (some false)) = some r := h
  clear h
  by_cases c3 : (l0.length : Int) = (l1.length : Int)
  · rw [if_pos c3] at H
    have c3b0 : ((l0.length : Int) == (l1.length : Int)) = true := beq_iff_eq.mpr c3
    have c3b1 : ((l0.length : Int) != (l1.length : Int)) = false := bne_eq_false_iff_eq.mpr c3
    have c3b2 : (l0.length == l1.length) = true := by first | simpa using c3 | (simp at c3 ⊢; omega)
    clear c3
    have H' := Aside0.mk H
    clear H
    go_enter Try.func21, Try.ntmps21
    go_wp2
    repeat (go_quiet (fail); try go_wp2)
    go_loopg [5] k (fun kq v5 w' => ∃ (x5_1 : Int), v5 = .int .i64 x5_1 ∧ Aside0 (lunetteref01_Same.l0 kq l0 l1 x5_1 = some r) ∧ Aside0 (kq ≤ k) ∧ Drawn0 w w')
    case atStart => exact ⟨(0), (by first | rfl | (simp; done) | (simp [*]; done)), H', ⟨Nat.le_refl _⟩, by repeat (first | exact Drawn0.refl _ | apply Drawn0.step)⟩
    case round =>
      clear H'
      try clear c1
      try clear c2
      try clear p2
      try clear c3
      try clear c3b0
      try clear c3b1
      try clear c3b2
      obtain ⟨x5_1, rfl, HA, HK1, ⟨m1, rfl⟩⟩ := hrel
      cases gk with
      | zero => exact absurd HA.out (by simp [lunetteref01_Same.l0])
      | succ k1 =>
        have H := HA.out
        clear HA
        simp only [lunetteref01_Same.l0] at H
        by_cases c4 : x5_1 < (l0.length : Int)
        · rw [if_pos c4] at H
          have c4b0 : decide (x5_1 < (l0.length : Int)) = true := decide_eq_true c4
          clear c4
          by_cases c5 : 0 ≤ x5_1
          · rw [if_pos c5] at H
            have c5b0 : decide (0 ≤ x5_1) = true := decide_eq_true c5
            clear c5
            by_cases c6 : x5_1 < (l1.length : Int)
            · rw [if_pos c6] at H
              have c6b0 : decide (x5_1 < (l1.length : Int)) = true := decide_eq_true c6
              clear c6
              by_cases c7 : (rdOf ByteArray.empty l0 x5_1).toList = (rdOf ByteArray.empty l1 x5_1).toList
              · rw [if_pos c7] at H
                have c7b0 : ((rdOf ByteArray.empty l0 x5_1).toList == (rdOf ByteArray.empty l1 x5_1).toList) = true := beq_iff_eq.mpr c7
                have c7b1 : ((rdOf ByteArray.empty l0 x5_1).toList != (rdOf ByteArray.empty l1 x5_1).toList) = false := bne_eq_false_iff_eq.mpr c7
                clear c7
                have H' := Aside0.mk H
                clear H
                have p152 : 0 ≤ (x5_1 : Int) := of_decide_eq_true (by first | (with_reducible assumption) | assumption)
                have q152 : x5_1 < (l0.length : Int) := of_decide_eq_true (by first | (with_reducible assumption) | assumption)
                obtain ⟨ad152, e152, hx152_0⟩ := Kd.at_string HR0.out x5_1 p152 q152
                cases e152
                replace p152 := eq_true p152
                replace q152 := eq_true q152
                have p153 : 0 ≤ (x5_1 : Int) := of_decide_eq_true (by first | (with_reducible assumption) | assumption)
                have q153 : x5_1 < (l1.length : Int) := of_decide_eq_true (by first | (with_reducible assumption) | assumption)
                obtain ⟨ad153, e153, hx153_0⟩ := Kd.at_string HR1.out x5_1 p153 q153
                cases e153
                replace p153 := eq_true p153
                replace q153 := eq_true q153
                go_wp2
                repeat (go_quiet (fail); try go_wp2)
                go_roundg k1
                case measure => have := HK1.out; omega
                case rel => exact ⟨(wrap64 (x5_1 + 1)), (by first | rfl | (simp; done) | (simp [*]; done)), H', ⟨by have := HK1.out; omega⟩, by repeat (first | exact Drawn0.refl _ | apply Drawn0.step)⟩
              · rw [if_neg c7] at H
                have c7b0 : ((rdOf ByteArray.empty l0 x5_1).toList == (rdOf ByteArray.empty l1 x5_1).toList) = false := beq_eq_false_iff_ne.mpr c7
                have c7b1 : ((rdOf ByteArray.empty l0 x5_1).toList != (rdOf ByteArray.empty l1 x5_1).toList) = true := bne_iff_ne.mpr c7
                obtain rfl := Option.some.inj H
                have p152 : 0 ≤ (x5_1 : Int) := of_decide_eq_true (by first | (with_reducible assumption) | assumption)
                have q152 : x5_1 < (l0.length : Int) := of_decide_eq_true (by first | (with_reducible assumption) | assumption)
                obtain ⟨ad152, e152, hx152_0⟩ := Kd.at_string HR0.out x5_1 p152 q152
                cases e152
                replace p152 := eq_true p152
                replace q152 := eq_true q152
                have p153 : 0 ≤ (x5_1 : Int) := of_decide_eq_true (by first | (with_reducible assumption) | assumption)
                have q153 : x5_1 < (l1.length : Int) := of_decide_eq_true (by first | (with_reducible assumption) | assumption)
                obtain ⟨ad153, e153, hx153_0⟩ := Kd.at_string HR1.out x5_1 p153 q153
                cases e153
                replace p153 := eq_true p153
                replace q153 := eq_true q153
                go_wp2
                repeat (go_quiet (fail); try go_wp2)
                go_ret
                exact ⟨by first | rfl | (simp; done) | (simp [*]; done), by repeat (first | exact Drawn0.refl _ | apply Drawn0.step)⟩
            · rw [if_neg c6] at H
              exact absurd H (by simp)
          · rw [if_neg c5] at H
            exact absurd H (by simp)
        · rw [if_neg c4] at H
          have c4b0 : decide (x5_1 < (l0.length : Int)) = false := decide_eq_false c4
          clear c4
          obtain rfl := Option.some.inj H
          go_wp2
          repeat (go_quiet (fail); try go_wp2)
          go_ret
          exact ⟨by first | rfl | (simp; done) | (simp [*]; done), by repeat (first | exact Drawn0.refl _ | apply Drawn0.step)⟩
  · rw [if_neg c3] at H
    have c3b0 : ((l0.length : Int) == (l1.length : Int)) = false := beq_eq_false_iff_ne.mpr c3
    have c3b1 : ((l0.length : Int) != (l1.length : Int)) = true := bne_iff_ne.mpr c3
    have c3b2 : (l0.length == l1.length) = false := by first | simpa using c3 | (simp at c3 ⊢; omega)
    obtain rfl := Option.some.inj H
    go_enter Try.func21, Try.ntmps21
    go_wp2
    repeat (go_quiet (fail); try go_wp2)
    go_ret
    exact ⟨by first | rfl | (simp; done) | (simp [*]; done), by repeat (first | exact Drawn0.refl _ | apply Drawn0.step)⟩

/-! ### lunetteref05_Same: function 23 -/
mutual
def lunetteref05_Same.j0 : Nat → Bool → Bool → List ByteArray → List ByteArray → List Int → Bool → List ByteArray → List ByteArray → List Int → Option (Bool)
  | 0, _, _, _, _, _, _, _, _, _ => none
  | k + 1, x19, x155000, x155001, x155002, x155003, x156000, x156001, x156002, x156003 => if x19 = true then (some false) else (lunetteref05_Same.l0 k 0 x155000 x155001 x155002 x155003 x156000 x156001 x156002 x156003)
def lunetteref05_Same.l0 : Nat → Int → Bool → List ByteArray → List ByteArray → List Int → Bool → List ByteArray → List ByteArray → List Int → Option (Bool)
  | 0, _, _, _, _, _, _, _, _, _ => none
  | k + 1, x5, x155000, x155001, x155002, x155003, x156000, x156001, x156002, x156003 => if x5 < (x155003.length : Int) then (if 0 ≤ x5 then (if x5 < (x156003.length : Int) then (if (rd x155003 x5) = (rd x156003 x5) then (lunetteref05_Same.l0 k (wrap64 (x5 + 1)) x155000 x155001 x155002 x155003 x156000 x156001 x156002 x156003) else (some false)) else (none)) else (none)) else ((lunetteref01_Same.f k x155001 x156001).bind fun t158 => (if t158 = true then ((lunetteref01_Same.f k x155002 x156002).bind fun t159 => (some t159)) else (some false)))
end
def lunetteref05_Same.f (k : Nat) (a0_0 : Bool) (l0_1 : List ByteArray) (l0_2 : List ByteArray) (l0_3 : List Int) (a1_0 : Bool) (l1_1 : List ByteArray) (l1_2 : List ByteArray) (l1_3 : List Int) : Option (Bool) := if (a0_0 != a1_0) = true then (lunetteref05_Same.j0 k true a0_0 l0_1 l0_2 l0_3 a1_0 l1_1 l1_2 l1_3) else (lunetteref05_Same.j0 k ((l0_3.length : Int) != (l1_3.length : Int)) a0_0 l0_1 l0_2 l0_3 a1_0 l1_1 l1_2 l1_3)
theorem lunetteref05_Same.mono_l : ∀ k, (∀ y0 y1 y2 y3 y4 y5 y6 y7 y8, LeO (lunetteref05_Same.j0 k y0 y1 y2 y3 y4 y5 y6 y7 y8) (lunetteref05_Same.j0 (k + 1) y0 y1 y2 y3 y4 y5 y6 y7 y8)) ∧ (∀ y0 y1 y2 y3 y4 y5 y6 y7 y8, LeO (lunetteref05_Same.l0 k y0 y1 y2 y3 y4 y5 y6 y7 y8) (lunetteref05_Same.l0 (k + 1) y0 y1 y2 y3 y4 y5 y6 y7 y8))
  | 0 => ⟨fun _ _ _ _ _ _ _ _ _ r h => by simp [lunetteref05_Same.j0] at h, fun _ _ _ _ _ _ _ _ _ r h => by simp [lunetteref05_Same.l0] at h⟩
  | k + 1 => by
    obtain ⟨ih0, ih1⟩ := lunetteref05_Same.mono_l k
    refine ⟨?_, ?_⟩
    · intro y0 y1 y2 y3 y4 y5 y6 y7 y8
      unfold lunetteref05_Same.j0
      repeat' first
      | (with_reducible exact ih0 _ _ _ _ _ _ _ _ _)
      | (with_reducible exact ih1 _ _ _ _ _ _ _ _ _)
      | (with_reducible exact lunetteref01_Same.mono _ _ _)
      | (with_reducible exact LeO.refl _)
      | (with_reducible exact LeO.none _)
      | (with_reducible refine LeO.ite ?_ ?_)
      | (with_reducible refine LeO.bind ?_ (fun _ => ?_))
      | exact ih0 _ _ _ _ _ _ _ _ _
      | exact ih1 _ _ _ _ _ _ _ _ _
      | exact lunetteref01_Same.mono _ _ _
      | exact LeO.none _
      | refine LeO.ite ?_ ?_
      | refine LeO.bind ?_ (fun _ => ?_)
    · intro y0 y1 y2 y3 y4 y5 y6 y7 y8
      unfold lunetteref05_Same.l0
      repeat' first
      | (with_reducible exact ih0 _ _ _ _ _ _ _ _ _)
      | (with_reducible exact ih1 _ _ _ _ _ _ _ _ _)
      | (with_reducible exact lunetteref01_Same.mono _ _ _)
      | (with_reducible exact LeO.refl _)
      | (with_reducible exact LeO.none _)
      | (with_reducible refine LeO.ite ?_ ?_)
      | (with_reducible refine LeO.bind ?_ (fun _ => ?_))
      | exact ih0 _ _ _ _ _ _ _ _ _
      | exact ih1 _ _ _ _ _ _ _ _ _
      | exact lunetteref01_Same.mono _ _ _
      | exact LeO.none _
      | refine LeO.ite ?_ ?_
      | refine LeO.bind ?_ (fun _ => ?_)
theorem lunetteref05_Same.mono : ∀ a0 a1 a2 a3 a4 a5 a6 a7 k, LeO (lunetteref05_Same.f k a0 a1 a2 a3 a4 a5 a6 a7) (lunetteref05_Same.f (k + 1) a0 a1 a2 a3 a4 a5 a6 a7) := by
  intro a0 a1 a2 a3 a4 a5 a6 a7 k
  obtain ⟨ih0, ih1⟩ := lunetteref05_Same.mono_l k
  unfold lunetteref05_Same.f
  repeat' first
      | (with_reducible exact ih0 _ _ _ _ _ _ _ _ _)
      | (with_reducible exact ih1 _ _ _ _ _ _ _ _ _)
      | (with_reducible exact lunetteref01_Same.mono _ _ _)
      | (with_reducible exact LeO.refl _)
      | (with_reducible exact LeO.none _)
      | (with_reducible refine LeO.ite ?_ ?_)
      | (with_reducible refine LeO.bind ?_ (fun _ => ?_))
      | exact ih0 _ _ _ _ _ _ _ _ _
      | exact ih1 _ _ _ _ _ _ _ _ _
      | exact lunetteref01_Same.mono _ _ _
      | exact LeO.none _
      | refine LeO.ite ?_ ?_
      | refine LeO.bind ?_ (fun _ => ?_)
set_option maxHeartbeats 8000000 in
set_option maxRecDepth 100000 in
theorem lunetteref05_Same.calls (k : Nat) (a0_0 : Bool) (A0_1 : Option Addr) (c0_1 : Nat) (l0_1 : List ByteArray) (A0_2 : Option Addr) (c0_2 : Nat) (l0_2 : List ByteArray) (A0_3 : Option Addr) (c0_3 : Nat) (l0_3 : List Int) (a1_0 : Bool) (A1_1 : Option Addr) (c1_1 : Nat) (l1_1 : List ByteArray) (A1_2 : Option Addr) (c1_2 : Nat) (l1_2 : List ByteArray) (A1_3 : Option Addr) (c1_3 : Nat) (l1_3 : List Int) (r : Bool) (w : World) (hr0_1 : Kd.C Kd.string w A0_1 l0_1.length l0_1) (hc0_1 : l0_1.length ≤ c0_1) (hr0_2 : Kd.C Kd.string w A0_2 l0_2.length l0_2) (hc0_2 : l0_2.length ≤ c0_2) (hr0_3 : Kd.C (Kd.int .i64) w A0_3 l0_3.length l0_3) (hc0_3 : l0_3.length ≤ c0_3) (hr1_1 : Kd.C Kd.string w A1_1 l1_1.length l1_1) (hc1_1 : l1_1.length ≤ c1_1) (hr1_2 : Kd.C Kd.string w A1_2 l1_2.length l1_2) (hc1_2 : l1_2.length ≤ c1_2) (hr1_3 : Kd.C (Kd.int .i64) w A1_3 l1_3.length l1_3) (hc1_3 : l1_3.length ≤ c1_3) (h : lunetteref05_Same.f k a0_0 l0_1 l0_2 l0_3 a1_0 l1_1 l1_2 l1_3 = some r) :
    Calls Try.prog 23 #[.agg #[.bool a0_0, .slice A0_1 l0_1.length c0_1, .slice A0_2 l0_2.length c0_2, .slice A0_3 l0_3.length c0_3], .agg #[.bool a1_0, .slice A1_1 l1_1.length c1_1, .slice A1_2 l1_2.length c1_2, .slice A1_3 l1_3.length c1_3]] w fun e w' => e = .returned (.bool r) ∧ Below w.heap.size w w' := by
  have hu25 := Try.underlying25
  have HR0_1 := Aside0.mk hr0_1
  have HC0_1 := Aside0.mk hc0_1
  clear hr0_1 hc0_1
  have HR0_2 := Aside0.mk hr0_2
  have HC0_2 := Aside0.mk hc0_2
  clear hr0_2 hc0_2
  have HR0_3 := Aside0.mk hr0_3
  have HC0_3 := Aside0.mk hc0_3
  clear hr0_3 hc0_3
  have HR1_1 := Aside0.mk hr1_1
  have HC1_1 := Aside0.mk hc1_1
  clear hr1_1 hc1_1
  have HR1_2 := Aside0.mk hr1_2
  have HC1_2 := Aside0.mk hc1_2
  clear hr1_2 hc1_2
  have HR1_3 := Aside0.mk hr1_3
  have HC1_3 := Aside0.mk hc1_3
  clear hr1_3 hc1_3
  have HB := Aside0.mk (Below.refl w.heap.size w)
  have H : (if (a0_0 != a1_0) = true then (lunetteref05_Same.j0 k true a0_0 l0_1 l0_2 l0_3 a1_0 l1_1 l1_2 l1_3) else (lunetteref05_Same.j0 k ((l0_3.length : Int) != (l1_3.length : Int)) a0_0 l0_1 l0_2 l0_3 a1_0 l1_1 l1_2 l1_3)) = some r := h
  clear h
  have HC3 := Aside0.mk H
  clear H
  go_enter Try.func23, Try.ntmps23
  go_upto_region 1 with (first | ((with_reducible refine gate_dst (N := 2) rfl ?_); (try (refine gate_guard (by rfl) ?_; dsimp only)); refine box_event ?hg (N := 2) ?hd (cs := #[.bool a0_0, .slice A0_1 l0_1.length c0_1, .slice A0_2 l0_2.length c0_2, .slice A0_3 l0_3.length c0_3]) (t := 25) ?hr ?_; (case hd => rfl); (case hg => rfl); (case hr => first | (go_simp; done) | (go_simp; rfl)); intro gb154 hg w4 hbox hb; have n0_ := Aside0.mk (below_step (by repeat (first | (with_reducible first | exact HB.out | apply below_alloc | apply pw_below_drewN | apply below_drew1) | exact HB.out)) hb); have n1_ := Aside0.mk (hbox); have n2_ := Aside0.mk ((by rw [hg]; exact (below_size (by repeat (first | (with_reducible first | exact HB.out | apply below_alloc | apply pw_below_drewN | apply below_drew1) | exact HB.out))) : w.heap.size ≤ gb154)); have n3_ := Aside0.mk ((by rw [hg]; exact (below_size (by repeat (first | (with_reducible first | exact HB.out | apply below_alloc | apply pw_below_drewN | apply below_drew1) | exact HB.out))) : w.heap.size ≤ gb154)); clear HB; have HB := n0_; have BK154 := n1_; have GW154 := n2_; have GE154 := n3_; clear n0_ n1_ n2_ n3_; clear hb hbox hg) | ((with_reducible refine gate_dst (N := 3) rfl ?_); (try (refine gate_guard (by rfl) ?_; dsimp only)); refine box_event ?hg (N := 3) ?hd (cs := #[.bool a1_0, .slice A1_1 l1_1.length c1_1, .slice A1_2 l1_2.length c1_2, .slice A1_3 l1_3.length c1_3]) (t := 25) ?hr ?_; (case hd => rfl); (case hg => rfl); (case hr => first | (go_simp; done) | (go_simp; rfl)); intro gb155 hg w5 hbox hb; have n0_ := Aside0.mk (blk_below (g := gb154) (o := .cells #[.bool a0_0, .slice A0_1 l0_1.length c0_1, .slice A0_2 l0_2.length c0_2, .slice A0_3 l0_3.length c0_3] 25 (0, 0)) (by (with_reducible repeat (first | refine blk_drewN ?_ _ | refine blk_drew ?_ | refine blk_alloc ?_ _)); exact BK154.out) hb); have n1_ := Aside0.mk (below_step (by repeat (first | (with_reducible first | exact HB.out | apply below_alloc | apply pw_below_drewN | apply below_drew1 | refine below_set ?_ GE154.out) | exact HB.out)) hb); have n2_ := Aside0.mk (hbox); have n3_ := Aside0.mk ((by rw [hg]; exact (below_size (by repeat (first | (with_reducible first | exact HB.out | apply below_alloc | apply pw_below_drewN | apply below_drew1 | refine below_set ?_ GE154.out) | exact HB.out))) : w.heap.size ≤ gb155)); have n4_ := Aside0.mk ((by rw [hg]; exact (below_size (by repeat (first | (with_reducible first | exact HB.out | apply below_alloc | apply pw_below_drewN | apply below_drew1 | refine below_set ?_ GE154.out) | exact HB.out))) : w.heap.size ≤ gb155)); have n5_ := Aside0.mk ((by rw [hg]; exact Nat.ne_of_lt (blk_lt (g := gb154) (o := .cells #[.bool a0_0, .slice A0_1 l0_1.length c0_1, .slice A0_2 l0_2.length c0_2, .slice A0_3 l0_3.length c0_3] 25 (0, 0)) (by (with_reducible repeat (first | refine blk_drewN ?_ _ | refine blk_drew ?_ | refine blk_alloc ?_ _)); exact BK154.out)) : gb154 ≠ gb155)); have n6_ := Aside0.mk ((by rw [hg]; exact Nat.ne_of_gt (blk_lt (g := gb154) (o := .cells #[.bool a0_0, .slice A0_1 l0_1.length c0_1, .slice A0_2 l0_2.length c0_2, .slice A0_3 l0_3.length c0_3] 25 (0, 0)) (by (with_reducible repeat (first | refine blk_drewN ?_ _ | refine blk_drew ?_ | refine blk_alloc ?_ _)); exact BK154.out)) : gb155 ≠ gb154)); clear BK154; clear HB; have BK154 := n0_; have HB := n1_; have BK155 := n2_; have GW155 := n3_; have GE155 := n4_; have NB154_155 := n5_; have NB155_154 := n6_; clear n0_ n1_ n2_ n3_ n4_ n5_ n6_; clear hb hbox hg))
  repeat (go_quiet (first | ((with_reducible refine gate_dst (N := 2) rfl ?_); (try (refine gate_guard (by rfl) ?_; dsimp only)); refine box_event ?hg (N := 2) ?hd (cs := #[.bool a0_0, .slice A0_1 l0_1.length c0_1, .slice A0_2 l0_2.length c0_2, .slice A0_3 l0_3.length c0_3]) (t := 25) ?hr ?_; (case hd => rfl); (case hg => rfl); (case hr => first | (go_simp; done) | (go_simp; rfl)); intro gb154 hg w4 hbox hb; have n0_ := Aside0.mk (below_step (by repeat (first | (with_reducible first | exact HB.out | apply below_alloc | apply pw_below_drewN | apply below_drew1) | exact HB.out)) hb); have n1_ := Aside0.mk (hbox); have n2_ := Aside0.mk ((by rw [hg]; exact (below_size (by repeat (first | (with_reducible first | exact HB.out | apply below_alloc | apply pw_below_drewN | apply below_drew1) | exact HB.out))) : w.heap.size ≤ gb154)); have n3_ := Aside0.mk ((by rw [hg]; exact (below_size (by repeat (first | (with_reducible first | exact HB.out | apply below_alloc | apply pw_below_drewN | apply below_drew1) | exact HB.out))) : w.heap.size ≤ gb154)); clear HB; have HB := n0_; have BK154 := n1_; have GW154 := n2_; have GE154 := n3_; clear n0_ n1_ n2_ n3_; clear hb hbox hg) | ((with_reducible refine gate_dst (N := 3) rfl ?_); (try (refine gate_guard (by rfl) ?_; dsimp only)); refine box_event ?hg (N := 3) ?hd (cs := #[.bool a1_0, .slice A1_1 l1_1.length c1_1, .slice A1_2 l1_2.length c1_2, .slice A1_3 l1_3.length c1_3]) (t := 25) ?hr ?_; (case hd => rfl); (case hg => rfl); (case hr => first | (go_simp; done) | (go_simp; rfl)); intro gb155 hg w5 hbox hb; have n0_ := Aside0.mk (blk_below (g := gb154) (o := .cells #[.bool a0_0, .slice A0_1 l0_1.length c0_1, .slice A0_2 l0_2.length c0_2, .slice A0_3 l0_3.length c0_3] 25 (0, 0)) (by (with_reducible repeat (first | refine blk_drewN ?_ _ | refine blk_drew ?_ | refine blk_alloc ?_ _)); exact BK154.out) hb); have n1_ := Aside0.mk (below_step (by repeat (first | (with_reducible first | exact HB.out | apply below_alloc | apply pw_below_drewN | apply below_drew1 | refine below_set ?_ GE154.out) | exact HB.out)) hb); have n2_ := Aside0.mk (hbox); have n3_ := Aside0.mk ((by rw [hg]; exact (below_size (by repeat (first | (with_reducible first | exact HB.out | apply below_alloc | apply pw_below_drewN | apply below_drew1 | refine below_set ?_ GE154.out) | exact HB.out))) : w.heap.size ≤ gb155)); have n4_ := Aside0.mk ((by rw [hg]; exact (below_size (by repeat (first | (with_reducible first | exact HB.out | apply below_alloc | apply pw_below_drewN | apply below_drew1 | refine below_set ?_ GE154.out) | exact HB.out))) : w.heap.size ≤ gb155)); have n5_ := Aside0.mk ((by rw [hg]; exact Nat.ne_of_lt (blk_lt (g := gb154) (o := .cells #[.bool a0_0, .slice A0_1 l0_1.length c0_1, .slice A0_2 l0_2.length c0_2, .slice A0_3 l0_3.length c0_3] 25 (0, 0)) (by (with_reducible repeat (first | refine blk_drewN ?_ _ | refine blk_drew ?_ | refine blk_alloc ?_ _)); exact BK154.out)) : gb154 ≠ gb155)); have n6_ := Aside0.mk ((by rw [hg]; exact Nat.ne_of_gt (blk_lt (g := gb154) (o := .cells #[.bool a0_0, .slice A0_1 l0_1.length c0_1, .slice A0_2 l0_2.length c0_2, .slice A0_3 l0_3.length c0_3] 25 (0, 0)) (by (with_reducible repeat (first | refine blk_drewN ?_ _ | refine blk_drew ?_ | refine blk_alloc ?_ _)); exact BK154.out)) : gb155 ≠ gb154)); clear BK154; clear HB; have BK154 := n0_; have HB := n1_; have BK155 := n2_; have GW155 := n3_; have GE155 := n4_; have NB154_155 := n5_; have NB155_154 := n6_; clear n0_ n1_ n2_ n3_ n4_ n5_ n6_; clear hb hbox hg)); go_upto_region 1 with (first | ((with_reducible refine gate_dst (N := 2) rfl ?_); (try (refine gate_guard (by rfl) ?_; dsimp only)); refine box_event ?hg (N := 2) ?hd (cs := #[.bool a0_0, .slice A0_1 l0_1.length c0_1, .slice A0_2 l0_2.length c0_2, .slice A0_3 l0_3.length c0_3]) (t := 25) ?hr ?_; (case hd => rfl); (case hg => rfl); (case hr => first | (go_simp; done) | (go_simp; rfl)); intro gb154 hg w4 hbox hb; have n0_ := Aside0.mk (below_step (by repeat (first | (with_reducible first | exact HB.out | apply below_alloc | apply pw_below_drewN | apply below_drew1) | exact HB.out)) hb); have n1_ := Aside0.mk (hbox); have n2_ := Aside0.mk ((by rw [hg]; exact (below_size (by repeat (first | (with_reducible first | exact HB.out | apply below_alloc | apply pw_below_drewN | apply below_drew1) | exact HB.out))) : w.heap.size ≤ gb154)); have n3_ := Aside0.mk ((by rw [hg]; exact (below_size (by repeat (first | (with_reducible first | exact HB.out | apply below_alloc | apply pw_below_drewN | apply below_drew1) | exact HB.out))) : w.heap.size ≤ gb154)); clear HB; have HB := n0_; have BK154 := n1_; have GW154 := n2_; have GE154 := n3_; clear n0_ n1_ n2_ n3_; clear hb hbox hg) | ((with_reducible refine gate_dst (N := 3) rfl ?_); (try (refine gate_guard (by rfl) ?_; dsimp only)); refine box_event ?hg (N := 3) ?hd (cs := #[.bool a1_0, .slice A1_1 l1_1.length c1_1, .slice A1_2 l1_2.length c1_2, .slice A1_3 l1_3.length c1_3]) (t := 25) ?hr ?_; (case hd => rfl); (case hg => rfl); (case hr => first | (go_simp; done) | (go_simp; rfl)); intro gb155 hg w5 hbox hb; have n0_ := Aside0.mk (blk_below (g := gb154) (o := .cells #[.bool a0_0, .slice A0_1 l0_1.length c0_1, .slice A0_2 l0_2.length c0_2, .slice A0_3 l0_3.length c0_3] 25 (0, 0)) (by (with_reducible repeat (first | refine blk_drewN ?_ _ | refine blk_drew ?_ | refine blk_alloc ?_ _)); exact BK154.out) hb); have n1_ := Aside0.mk (below_step (by repeat (first | (with_reducible first | exact HB.out | apply below_alloc | apply pw_below_drewN | apply below_drew1 | refine below_set ?_ GE154.out) | exact HB.out)) hb); have n2_ := Aside0.mk (hbox); have n3_ := Aside0.mk ((by rw [hg]; exact (below_size (by repeat (first | (with_reducible first | exact HB.out | apply below_alloc | apply pw_below_drewN | apply below_drew1 | refine below_set ?_ GE154.out) | exact HB.out))) : w.heap.size ≤ gb155)); have n4_ := Aside0.mk ((by rw [hg]; exact (below_size (by repeat (first | (with_reducible first | exact HB.out | apply below_alloc | apply pw_below_drewN | apply below_drew1 | refine below_set ?_ GE154.out) | exact HB.out))) : w.heap.size ≤ gb155)); have n5_ := Aside0.mk ((by rw [hg]; exact Nat.ne_of_lt (blk_lt (g := gb154) (o := .cells #[.bool a0_0, .slice A0_1 l0_1.length c0_1, .slice A0_2 l0_2.length c0_2, .slice A0_3 l0_3.length c0_3] 25 (0, 0)) (by (with_reducible repeat (first | refine blk_drewN ?_ _ | refine blk_drew ?_ | refine blk_alloc ?_ _)); exact BK154.out)) : gb154 ≠ gb155)); have n6_ := Aside0.mk ((by rw [hg]; exact Nat.ne_of_gt (blk_lt (g := gb154) (o := .cells #[.bool a0_0, .slice A0_1 l0_1.length c0_1, .slice A0_2 l0_2.length c0_2, .slice A0_3 l0_3.length c0_3] 25 (0, 0)) (by (with_reducible repeat (first | refine blk_drewN ?_ _ | refine blk_drew ?_ | refine blk_alloc ?_ _)); exact BK154.out)) : gb155 ≠ gb154)); clear BK154; clear HB; have BK154 := n0_; have HB := n1_; have BK155 := n2_; have GW155 := n3_; have GE155 := n4_; have NB154_155 := n5_; have NB155_154 := n6_; clear n0_ n1_ n2_ n3_ n4_ n5_ n6_; clear hb hbox hg)))
  (try simp only [Act.put, List.setIfInBounds_toArray, List.set_cons_zero, List.set_cons_succ])
  go_cut [19] (fun v19 wc => ∃ (kq : Nat) (x19_2 : Bool), v19 = .bool x19_2 ∧ Aside0 (lunetteref05_Same.j0 kq x19_2 a0_0 l0_1 l0_2 l0_3 a1_0 l1_1 l1_2 l1_3 = some r) ∧ Aside0 (kq ≤ k) ∧ Aside0 (wc.heap[gb154]? = some (.cells #[.bool a0_0, (.slice A0_1 l0_1.length c0_1), (.slice A0_2 l0_2.length c0_2), (.slice A0_3 l0_3.length c0_3)] 25 (0, 0))) ∧ Aside0 (wc.heap[gb155]? = some (.cells #[.bool a1_0, (.slice A1_1 l1_1.length c1_1), (.slice A1_2 l1_2.length c1_2), (.slice A1_3 l1_3.length c1_3)] 25 (0, 0))) ∧ Aside0 (Below w.heap.size w wc))
  case first =>
    have H := HC3.out
    clear HC3
    by_cases c6 : (a0_0 != a1_0) = true
    · rw [if_pos c6] at H
      have c6b0 : (a0_0 != a1_0) = true := c6
      (try (have c6b1 : decide (a0_0 = a1_0) = false := by simpa using c6))
      (try (have c6b2 : (a0_0 == a1_0) = false := by simpa using c6))
      (try (have c6b3 : ¬ (a0_0 = a1_0) := by simpa using c6))
      clear c6
      (first | rw [c6b0] | (simp only [i64_w, i32_w]; rw [c6b0]) | skip)
      have H' := Aside0.mk H
      clear H
      have hnb7 := NB154_155.out
      have hnc7 := NB155_154.out
      have hcz8_0 : w5.cell? ⟨gb154, 0, none⟩ = some (.bool a0_0) := (blk_cell BK154.out 0).trans rfl
      have hcz8_1 : w5.cell? ⟨gb154, 1, none⟩ = some (.slice A0_1 l0_1.length c0_1) := (blk_cell BK154.out 1).trans rfl
      have hcz8_2 : w5.cell? ⟨gb154, 2, none⟩ = some (.slice A0_2 l0_2.length c0_2) := (blk_cell BK154.out 2).trans rfl
      have hcz8_3 : w5.cell? ⟨gb154, 3, none⟩ = some (.slice A0_3 l0_3.length c0_3) := (blk_cell BK154.out 3).trans rfl
      have hfz8_0 := blk_frozen BK154.out 0
      have hfz8_1 := blk_frozen BK154.out 1
      have hfz8_2 := blk_frozen BK154.out 2
      have hfz8_3 := blk_frozen BK154.out 3
      have hcz9_0 : w5.cell? ⟨gb155, 0, none⟩ = some (.bool a1_0) := (blk_cell BK155.out 0).trans rfl
      have hcz9_1 : w5.cell? ⟨gb155, 1, none⟩ = some (.slice A1_1 l1_1.length c1_1) := (blk_cell BK155.out 1).trans rfl
      have hcz9_2 : w5.cell? ⟨gb155, 2, none⟩ = some (.slice A1_2 l1_2.length c1_2) := (blk_cell BK155.out 2).trans rfl
      have hcz9_3 : w5.cell? ⟨gb155, 3, none⟩ = some (.slice A1_3 l1_3.length c1_3) := (blk_cell BK155.out 3).trans rfl
      have hfz9_0 := blk_frozen BK155.out 0
      have hfz9_1 := blk_frozen BK155.out 1
      have hfz9_2 := blk_frozen BK155.out 2
      have hfz9_3 := blk_frozen BK155.out 3
      go_wp2
      repeat (go_quiet (fail); try go_wp2)
      go_meet
      case rel => exact ⟨_, (true), (by first | rfl | (simp; done) | (simp [*]; done)), H', ⟨by first | omega | exact Nat.le_refl _⟩, ⟨by (with_reducible repeat (first | refine blk_drewN ?_ _ | refine blk_drew ?_ | refine blk_alloc ?_ _)); exact BK154.out⟩, ⟨by (with_reducible repeat (first | refine blk_drewN ?_ _ | refine blk_drew ?_ | refine blk_alloc ?_ _)); exact BK155.out⟩, ⟨by repeat (first | (with_reducible first | exact HB.out | apply below_alloc | apply pw_below_drewN | apply below_drew1 | refine below_set ?_ GE154.out | refine below_set ?_ GE155.out) | exact HB.out)⟩⟩
    · rw [if_neg c6] at H
      have c6b0 : (a0_0 != a1_0) = false := by simpa using c6
      (try (have c6b1 : decide (a0_0 = a1_0) = true := by simpa using c6))
      (try (have c6b2 : (a0_0 == a1_0) = true := by simpa using c6))
      clear c6
      (first | rw [c6b0] | (simp only [i64_w, i32_w]; rw [c6b0]) | skip)
      have H' := Aside0.mk H
      clear H
      have hnb10 := NB154_155.out
      have hnc10 := NB155_154.out
      have hcz11_0 : w5.cell? ⟨gb154, 0, none⟩ = some (.bool a0_0) := (blk_cell BK154.out 0).trans rfl
      have hcz11_1 : w5.cell? ⟨gb154, 1, none⟩ = some (.slice A0_1 l0_1.length c0_1) := (blk_cell BK154.out 1).trans rfl
      have hcz11_2 : w5.cell? ⟨gb154, 2, none⟩ = some (.slice A0_2 l0_2.length c0_2) := (blk_cell BK154.out 2).trans rfl
      have hcz11_3 : w5.cell? ⟨gb154, 3, none⟩ = some (.slice A0_3 l0_3.length c0_3) := (blk_cell BK154.out 3).trans rfl
      have hfz11_0 := blk_frozen BK154.out 0
      have hfz11_1 := blk_frozen BK154.out 1
      have hfz11_2 := blk_frozen BK154.out 2
      have hfz11_3 := blk_frozen BK154.out 3
      have hcz12_0 : w5.cell? ⟨gb155, 0, none⟩ = some (.bool a1_0) := (blk_cell BK155.out 0).trans rfl
      have hcz12_1 : w5.cell? ⟨gb155, 1, none⟩ = some (.slice A1_1 l1_1.length c1_1) := (blk_cell BK155.out 1).trans rfl
      have hcz12_2 : w5.cell? ⟨gb155, 2, none⟩ = some (.slice A1_2 l1_2.length c1_2) := (blk_cell BK155.out 2).trans rfl
      have hcz12_3 : w5.cell? ⟨gb155, 3, none⟩ = some (.slice A1_3 l1_3.length c1_3) := (blk_cell BK155.out 3).trans rfl
      have hfz12_0 := blk_frozen BK155.out 0
      have hfz12_1 := blk_frozen BK155.out 1
      have hfz12_2 := blk_frozen BK155.out 2
      have hfz12_3 := blk_frozen BK155.out 3
      go_wp2
      repeat (go_quiet (fail); try go_wp2)
      go_meet
      case rel => exact ⟨_, (((l0_3.length : Int) != (l1_3.length : Int))), (by first | rfl | (simp; done) | (simp [*]; done)), H', ⟨by first | omega | exact Nat.le_refl _⟩, ⟨by (with_reducible repeat (first | refine blk_drewN ?_ _ | refine blk_drew ?_ | refine blk_alloc ?_ _)); exact BK154.out⟩, ⟨by (with_reducible repeat (first | refine blk_drewN ?_ _ | refine blk_drew ?_ | refine blk_alloc ?_ _)); exact BK155.out⟩, ⟨by repeat (first | (with_reducible first | exact HB.out | apply below_alloc | apply pw_below_drewN | apply below_drew1 | refine below_set ?_ GE154.out | refine below_set ?_ GE155.out) | exact HB.out)⟩⟩
  case rest =>
    clear HC3
    try clear c1
    try clear c2
    try clear p2
    try clear c6
    try clear c6b0
    try clear c6b1
    try clear c6b2
    try clear c7
    try clear c10
    try clear hcz11_0
    try clear hcz11_1
    try clear hcz11_2
    try clear hcz11_3
    try clear hcz12_0
    try clear hcz12_1
    try clear hcz12_2
    try clear hcz12_3
    try clear hcz8_0
    try clear hcz8_1
    try clear hcz8_2
    try clear hcz8_3
    try clear hcz9_0
    try clear hcz9_1
    try clear hcz9_2
    try clear hcz9_3
    try clear hfz11_0
    try clear hfz11_1
    try clear hfz11_2
    try clear hfz11_3
    try clear hfz12_0
    try clear hfz12_1
    try clear hfz12_2
    try clear hfz12_3
    try clear hfz8_0
    try clear hfz8_1
    try clear hfz8_2
    try clear hfz8_3
    try clear hfz9_0
    try clear hfz9_1
    try clear hfz9_2
    try clear hfz9_3
    obtain ⟨kq, x19_2, rfl, HA, HJ2, BK154, BK155, HB⟩ := hcut
    cases kq with
    | zero => exact absurd HA.out (by simp [lunetteref05_Same.j0])
    | succ kj2 =>
      have H := HA.out
      clear HA
      simp only [lunetteref05_Same.j0] at H
      by_cases c13 : x19_2 = true
      · subst c13
        have H1 : (some false) = some r := by rw [if_pos rfl] at H; exact H
        clear H
        have H := H1
        clear H1
        obtain rfl := Option.some.inj H
        go_wp2
        repeat (go_quiet (fail); try go_wp2)
        go_ret
        exact ⟨by first | rfl | (simp [errW_none, errW_some] <;> rfl) | (simp [*, errW_none, errW_some] <;> rfl), by repeat (first | (with_reducible first | exact HB.out | apply below_alloc | apply pw_below_drewN | apply below_drew1 | refine below_set ?_ GE154.out | refine below_set ?_ GE155.out) | exact HB.out)⟩
      · replace c13 := Bool.eq_false_iff.mpr c13
        subst c13
        have H1 : (lunetteref05_Same.l0 kj2 0 a0_0 l0_1 l0_2 l0_3 a1_0 l1_1 l1_2 l1_3) = some r := by rw [if_neg (show ¬ (false = true) by decide)] at H; exact H
        clear H
        have H := H1
        clear H1
        have H' := Aside0.mk H
        clear H
        go_wp2
        repeat (go_quiet (fail); try go_wp2)
        go_loopg [5] kj2 (fun kq v5 w' => ∃ (x5_2 : Int), v5 = .int .i64 x5_2 ∧ Aside0 (lunetteref05_Same.l0 kq x5_2 a0_0 l0_1 l0_2 l0_3 a1_0 l1_1 l1_2 l1_3 = some r) ∧ Aside0 (kq ≤ kj2) ∧ Aside0 (w'.heap[gb154]? = some (.cells #[.bool a0_0, (.slice A0_1 l0_1.length c0_1), (.slice A0_2 l0_2.length c0_2), (.slice A0_3 l0_3.length c0_3)] 25 (0, 0))) ∧ Aside0 (w'.heap[gb155]? = some (.cells #[.bool a1_0, (.slice A1_1 l1_1.length c1_1), (.slice A1_2 l1_2.length c1_2), (.slice A1_3 l1_3.length c1_3)] 25 (0, 0))) ∧ Aside0 (Below w.heap.size w w'))
        case atStart => exact ⟨(0), (by first | rfl | (simp; done) | (simp [*]; done)), H', ⟨Nat.le_refl _⟩, ⟨by (with_reducible repeat (first | refine blk_drewN ?_ _ | refine blk_drew ?_ | refine blk_alloc ?_ _)); exact BK154.out⟩, ⟨by (with_reducible repeat (first | refine blk_drewN ?_ _ | refine blk_drew ?_ | refine blk_alloc ?_ _)); exact BK155.out⟩, ⟨by repeat (first | (with_reducible first | exact HB.out | apply below_alloc | apply pw_below_drewN | apply below_drew1 | refine below_set ?_ GE154.out | refine below_set ?_ GE155.out) | exact HB.out)⟩⟩
        case round =>
          clear H'
          try clear c1
          try clear c2
          try clear p2
          try clear c6
          try clear c6b0
          try clear c6b1
          try clear c6b2
          try clear c7
          try clear c10
          try clear c13
          try clear hcz11_0
          try clear hcz11_1
          try clear hcz11_2
          try clear hcz11_3
          try clear hcz12_0
          try clear hcz12_1
          try clear hcz12_2
          try clear hcz12_3
          try clear hcz8_0
          try clear hcz8_1
          try clear hcz8_2
          try clear hcz8_3
          try clear hcz9_0
          try clear hcz9_1
          try clear hcz9_2
          try clear hcz9_3
          try clear hfz11_0
          try clear hfz11_1
          try clear hfz11_2
          try clear hfz11_3
          try clear hfz12_0
          try clear hfz12_1
          try clear hfz12_2
          try clear hfz12_3
          try clear hfz8_0
          try clear hfz8_1
          try clear hfz8_2
          try clear hfz8_3
          try clear hfz9_0
          try clear hfz9_1
          try clear hfz9_2
          try clear hfz9_3
          try clear p2
          obtain ⟨x5_2, rfl, HA, HK2, BK154, BK155, HB⟩ := hrel
          cases gk with
          | zero => exact absurd HA.out (by simp [lunetteref05_Same.l0])
          | succ k2 =>
            have H := HA.out
            clear HA
            simp only [lunetteref05_Same.l0] at H
            by_cases c14 : x5_2 < (l0_3.length : Int)
            · rw [if_pos c14] at H
              have c14b0 : decide (x5_2 < (l0_3.length : Int)) = true := decide_eq_true c14
              clear c14
              by_cases c15 : 0 ≤ x5_2
              · rw [if_pos c15] at H
                have c15b0 : decide (0 ≤ x5_2) = true := decide_eq_true c15
                clear c15
                by_cases c16 : x5_2 < (l1_3.length : Int)
                · rw [if_pos c16] at H
                  have c16b0 : decide (x5_2 < (l1_3.length : Int)) = true := decide_eq_true c16
                  clear c16
                  by_cases c17 : (rd l0_3 x5_2) = (rd l1_3 x5_2)
                  · rw [if_pos c17] at H
                    have c17b0 : ((rd l0_3 x5_2) == (rd l1_3 x5_2)) = true := beq_iff_eq.mpr c17
                    have c17b1 : ((rd l0_3 x5_2) != (rd l1_3 x5_2)) = false := bne_eq_false_iff_eq.mpr c17
                    clear c17
                    have H' := Aside0.mk H
                    clear H
                    have hnb18 := NB154_155.out
                    have hnc18 := NB155_154.out
                    have hcz19_0 : wr.cell? ⟨gb154, 0, none⟩ = some (.bool a0_0) := (blk_cell BK154.out 0).trans rfl
                    have hcz19_1 : wr.cell? ⟨gb154, 1, none⟩ = some (.slice A0_1 l0_1.length c0_1) := (blk_cell BK154.out 1).trans rfl
                    have hcz19_2 : wr.cell? ⟨gb154, 2, none⟩ = some (.slice A0_2 l0_2.length c0_2) := (blk_cell BK154.out 2).trans rfl
                    have hcz19_3 : wr.cell? ⟨gb154, 3, none⟩ = some (.slice A0_3 l0_3.length c0_3) := (blk_cell BK154.out 3).trans rfl
                    have hfz19_0 := blk_frozen BK154.out 0
                    have hfz19_1 := blk_frozen BK154.out 1
                    have hfz19_2 := blk_frozen BK154.out 2
                    have hfz19_3 := blk_frozen BK154.out 3
                    have p156 : 0 ≤ (x5_2 : Int) := of_decide_eq_true (by first | (with_reducible assumption) | assumption)
                    have q156 : x5_2 < (l0_3.length : Int) := of_decide_eq_true (by first | (with_reducible assumption) | assumption)
                    obtain ⟨ad156, e156, hx156_0⟩ := Kd.at_int HR0_3.out x5_2 p156 q156
                    cases e156
                    replace hx156_0 := (HB.out.cell (World.block_lt_of_cell? w _ hx156_0)).trans hx156_0
                    replace p156 := eq_true p156
                    replace q156 := eq_true q156
                    have hcz20_0 : wr.cell? ⟨gb155, 0, none⟩ = some (.bool a1_0) := (blk_cell BK155.out 0).trans rfl
                    have hcz20_1 : wr.cell? ⟨gb155, 1, none⟩ = some (.slice A1_1 l1_1.length c1_1) := (blk_cell BK155.out 1).trans rfl
                    have hcz20_2 : wr.cell? ⟨gb155, 2, none⟩ = some (.slice A1_2 l1_2.length c1_2) := (blk_cell BK155.out 2).trans rfl
                    have hcz20_3 : wr.cell? ⟨gb155, 3, none⟩ = some (.slice A1_3 l1_3.length c1_3) := (blk_cell BK155.out 3).trans rfl
                    have hfz20_0 := blk_frozen BK155.out 0
                    have hfz20_1 := blk_frozen BK155.out 1
                    have hfz20_2 := blk_frozen BK155.out 2
                    have hfz20_3 := blk_frozen BK155.out 3
                    have p157 : 0 ≤ (x5_2 : Int) := of_decide_eq_true (by first | (with_reducible assumption) | assumption)
                    have q157 : x5_2 < (l1_3.length : Int) := of_decide_eq_true (by first | (with_reducible assumption) | assumption)
                    obtain ⟨ad157, e157, hx157_0⟩ := Kd.at_int HR1_3.out x5_2 p157 q157
                    cases e157
                    replace hx157_0 := (HB.out.cell (World.block_lt_of_cell? w _ hx157_0)).trans hx157_0
                    replace p157 := eq_true p157
                    replace q157 := eq_true q157
                    go_wp2
                    repeat (go_quiet (fail); try go_wp2)
                    go_roundg k2
                    case measure => have := HJ2.out; have := HK2.out; omega
                    case rel => exact ⟨(wrap64 (x5_2 + 1)), (by first | rfl | (simp; done) | (simp [*]; done)), H', ⟨by have := HJ2.out; have := HK2.out; omega⟩, ⟨by (with_reducible repeat (first | refine blk_drewN ?_ _ | refine blk_drew ?_ | refine blk_alloc ?_ _)); exact BK154.out⟩, ⟨by (with_reducible repeat (first | refine blk_drewN ?_ _ | refine blk_drew ?_ | refine blk_alloc ?_ _)); exact BK155.out⟩, ⟨by repeat (first | (with_reducible first | exact HB.out | apply below_alloc | apply pw_below_drewN | apply below_drew1 | refine below_set ?_ GE154.out | refine below_set ?_ GE155.out) | exact HB.out)⟩⟩
                  · rw [if_neg c17] at H
                    have c17b0 : ((rd l0_3 x5_2) == (rd l1_3 x5_2)) = false := beq_eq_false_iff_ne.mpr c17
                    have c17b1 : ((rd l0_3 x5_2) != (rd l1_3 x5_2)) = true := bne_iff_ne.mpr c17
                    obtain rfl := Option.some.inj H
                    have hnb21 := NB154_155.out
                    have hnc21 := NB155_154.out
                    have hcz22_0 : wr.cell? ⟨gb154, 0, none⟩ = some (.bool a0_0) := (blk_cell BK154.out 0).trans rfl
                    have hcz22_1 : wr.cell? ⟨gb154, 1, none⟩ = some (.slice A0_1 l0_1.length c0_1) := (blk_cell BK154.out 1).trans rfl
                    have hcz22_2 : wr.cell? ⟨gb154, 2, none⟩ = some (.slice A0_2 l0_2.length c0_2) := (blk_cell BK154.out 2).trans rfl
                    have hcz22_3 : wr.cell? ⟨gb154, 3, none⟩ = some (.slice A0_3 l0_3.length c0_3) := (blk_cell BK154.out 3).trans rfl
                    have hfz22_0 := blk_frozen BK154.out 0
                    have hfz22_1 := blk_frozen BK154.out 1
                    have hfz22_2 := blk_frozen BK154.out 2
                    have hfz22_3 := blk_frozen BK154.out 3
                    have p156 : 0 ≤ (x5_2 : Int) := of_decide_eq_true (by first | (with_reducible assumption) | assumption)
                    have q156 : x5_2 < (l0_3.length : Int) := of_decide_eq_true (by first | (with_reducible assumption) | assumption)
                    obtain ⟨ad156, e156, hx156_0⟩ := Kd.at_int HR0_3.out x5_2 p156 q156
                    cases e156
                    replace hx156_0 := (HB.out.cell (World.block_lt_of_cell? w _ hx156_0)).trans hx156_0
                    replace p156 := eq_true p156
                    replace q156 := eq_true q156
                    have hcz23_0 : wr.cell? ⟨gb155, 0, none⟩ = some (.bool a1_0) := (blk_cell BK155.out 0).trans rfl
                    have hcz23_1 : wr.cell? ⟨gb155, 1, none⟩ = some (.slice A1_1 l1_1.length c1_1) := (blk_cell BK155.out 1).trans rfl
                    have hcz23_2 : wr.cell? ⟨gb155, 2, none⟩ = some (.slice A1_2 l1_2.length c1_2) := (blk_cell BK155.out 2).trans rfl
                    have hcz23_3 : wr.cell? ⟨gb155, 3, none⟩ = some (.slice A1_3 l1_3.length c1_3) := (blk_cell BK155.out 3).trans rfl
                    have hfz23_0 := blk_frozen BK155.out 0
                    have hfz23_1 := blk_frozen BK155.out 1
                    have hfz23_2 := blk_frozen BK155.out 2
                    have hfz23_3 := blk_frozen BK155.out 3
                    have p157 : 0 ≤ (x5_2 : Int) := of_decide_eq_true (by first | (with_reducible assumption) | assumption)
                    have q157 : x5_2 < (l1_3.length : Int) := of_decide_eq_true (by first | (with_reducible assumption) | assumption)
                    obtain ⟨ad157, e157, hx157_0⟩ := Kd.at_int HR1_3.out x5_2 p157 q157
                    cases e157
                    replace hx157_0 := (HB.out.cell (World.block_lt_of_cell? w _ hx157_0)).trans hx157_0
                    replace p157 := eq_true p157
                    replace q157 := eq_true q157
                    go_wp2
                    repeat (go_quiet (fail); try go_wp2)
                    go_ret
                    exact ⟨by first | rfl | (simp [errW_none, errW_some] <;> rfl) | (simp [*, errW_none, errW_some] <;> rfl), by repeat (first | (with_reducible first | exact HB.out | apply below_alloc | apply pw_below_drewN | apply below_drew1 | refine below_set ?_ GE154.out | refine below_set ?_ GE155.out) | exact HB.out)⟩
                · rw [if_neg c16] at H
                  exact absurd H (by simp)
              · rw [if_neg c15] at H
                exact absurd H (by simp)
            · rw [if_neg c14] at H
              have c14b0 : decide (x5_2 < (l0_3.length : Int)) = false := decide_eq_false c14
              clear c14
              replace H := Option.bind_eq_some_iff.mp H
              obtain ⟨t158, A240, H⟩ := H
              replace H : (if t158 = true then ((lunetteref01_Same.f k2 l0_2 l1_2).bind fun t159 => (some t159)) else (some false)) = some r := H
              have A24 := Aside0.mk A240
              clear A240
              by_cases c25 : t158 = true
              · subst c25
                have H1 : ((lunetteref01_Same.f k2 l0_2 l1_2).bind fun t159 => (some t159)) = some r := by rw [if_pos rfl] at H; exact H
                clear H
                have H := H1
                clear H1
                replace H := Option.bind_eq_some_iff.mp H
                obtain ⟨t159, A260, H⟩ := H
                replace H : (some t159) = some r := H
                have A26 := Aside0.mk A260
                clear A260
                obtain rfl := Option.some.inj H
                have hnb27 := NB154_155.out
                have hnc27 := NB155_154.out
                have hcz28_0 : wr.cell? ⟨gb154, 0, none⟩ = some (.bool a0_0) := (blk_cell BK154.out 0).trans rfl
                have hcz28_1 : wr.cell? ⟨gb154, 1, none⟩ = some (.slice A0_1 l0_1.length c0_1) := (blk_cell BK154.out 1).trans rfl
                have hcz28_2 : wr.cell? ⟨gb154, 2, none⟩ = some (.slice A0_2 l0_2.length c0_2) := (blk_cell BK154.out 2).trans rfl
                have hcz28_3 : wr.cell? ⟨gb154, 3, none⟩ = some (.slice A0_3 l0_3.length c0_3) := (blk_cell BK154.out 3).trans rfl
                have hfz28_0 := blk_frozen BK154.out 0
                have hfz28_1 := blk_frozen BK154.out 1
                have hfz28_2 := blk_frozen BK154.out 2
                have hfz28_3 := blk_frozen BK154.out 3
                have hcz29_0 : wr.cell? ⟨gb155, 0, none⟩ = some (.bool a1_0) := (blk_cell BK155.out 0).trans rfl
                have hcz29_1 : wr.cell? ⟨gb155, 1, none⟩ = some (.slice A1_1 l1_1.length c1_1) := (blk_cell BK155.out 1).trans rfl
                have hcz29_2 : wr.cell? ⟨gb155, 2, none⟩ = some (.slice A1_2 l1_2.length c1_2) := (blk_cell BK155.out 2).trans rfl
                have hcz29_3 : wr.cell? ⟨gb155, 3, none⟩ = some (.slice A1_3 l1_3.length c1_3) := (blk_cell BK155.out 3).trans rfl
                have hfz29_0 := blk_frozen BK155.out 0
                have hfz29_1 := blk_frozen BK155.out 1
                have hfz29_2 := blk_frozen BK155.out 2
                have hfz29_3 := blk_frozen BK155.out 3
                go_wp2_with (first | (go_at_call 21; (with_reducible refine (lunetteref01_Same.calls k2 _ _ l0_1 _ _ l1_1 true _ ?side1 ?side2 ?side3 ?side4 A24.out).mono ?_); (case side1 => repeat (first | exact (Kd.C_below HR0_1.out HB.out) | (with_reducible refine Kd.C_alloc ?_ _) | (with_reducible refine Kd.C_drewN ?_ _) | (with_reducible refine Kd.C_drew ?_))); (case side2 => exact HC0_1.out); (case side3 => repeat (first | exact (Kd.C_below HR1_1.out HB.out) | (with_reducible refine Kd.C_alloc ?_ _) | (with_reducible refine Kd.C_drewN ?_ _) | (with_reducible refine Kd.C_drew ?_))); (case side4 => exact HC1_1.out); rintro e w' ⟨rfl, ⟨nd, rfl⟩⟩; (try first | exact ⟨rfl, _, World.drewN_drewN _ _ _⟩ | exact ⟨rfl, _, Eq.trans (World.drewN_drewN _ _ _) (congrArg (World.drewN _) (Nat.add_assoc _ _ _))⟩)) | (go_at_call 21; (with_reducible refine (lunetteref01_Same.calls k2 _ _ l0_2 _ _ l1_2 t159 _ ?side1 ?side2 ?side3 ?side4 A26.out).mono ?_); (case side1 => repeat (first | exact (Kd.C_below HR0_2.out (by repeat (first | (with_reducible first | exact HB.out | apply below_alloc | apply pw_below_drewN | apply below_drew1 | refine below_set ?_ GE154.out | refine below_set ?_ GE155.out) | exact HB.out))) | (with_reducible refine Kd.C_alloc ?_ _) | (with_reducible refine Kd.C_drewN ?_ _) | (with_reducible refine Kd.C_drew ?_))); (case side2 => exact HC0_2.out); (case side3 => repeat (first | exact (Kd.C_below HR1_2.out (by repeat (first | (with_reducible first | exact HB.out | apply below_alloc | apply pw_below_drewN | apply below_drew1 | refine below_set ?_ GE154.out | refine below_set ?_ GE155.out) | exact HB.out))) | (with_reducible refine Kd.C_alloc ?_ _) | (with_reducible refine Kd.C_drewN ?_ _) | (with_reducible refine Kd.C_drew ?_))); (case side4 => exact HC1_2.out); rintro e w' ⟨rfl, ⟨nd, rfl⟩⟩; (try first | exact ⟨rfl, _, World.drewN_drewN _ _ _⟩ | exact ⟨rfl, _, Eq.trans (World.drewN_drewN _ _ _) (congrArg (World.drewN _) (Nat.add_assoc _ _ _))⟩)))
                repeat (go_quiet (first | (go_at_call 21; (with_reducible refine (lunetteref01_Same.calls k2 _ _ l0_1 _ _ l1_1 true _ ?side1 ?side2 ?side3 ?side4 A24.out).mono ?_); (case side1 => repeat (first | exact (Kd.C_below HR0_1.out HB.out) | (with_reducible refine Kd.C_alloc ?_ _) | (with_reducible refine Kd.C_drewN ?_ _) | (with_reducible refine Kd.C_drew ?_))); (case side2 => exact HC0_1.out); (case side3 => repeat (first | exact (Kd.C_below HR1_1.out HB.out) | (with_reducible refine Kd.C_alloc ?_ _) | (with_reducible refine Kd.C_drewN ?_ _) | (with_reducible refine Kd.C_drew ?_))); (case side4 => exact HC1_1.out); rintro e w' ⟨rfl, ⟨nd, rfl⟩⟩; (try first | exact ⟨rfl, _, World.drewN_drewN _ _ _⟩ | exact ⟨rfl, _, Eq.trans (World.drewN_drewN _ _ _) (congrArg (World.drewN _) (Nat.add_assoc _ _ _))⟩)) | (go_at_call 21; (with_reducible refine (lunetteref01_Same.calls k2 _ _ l0_2 _ _ l1_2 t159 _ ?side1 ?side2 ?side3 ?side4 A26.out).mono ?_); (case side1 => repeat (first | exact (Kd.C_below HR0_2.out (by repeat (first | (with_reducible first | exact HB.out | apply below_alloc | apply pw_below_drewN | apply below_drew1 | refine below_set ?_ GE154.out | refine below_set ?_ GE155.out) | exact HB.out))) | (with_reducible refine Kd.C_alloc ?_ _) | (with_reducible refine Kd.C_drewN ?_ _) | (with_reducible refine Kd.C_drew ?_))); (case side2 => exact HC0_2.out); (case side3 => repeat (first | exact (Kd.C_below HR1_2.out (by repeat (first | (with_reducible first | exact HB.out | apply below_alloc | apply pw_below_drewN | apply below_drew1 | refine below_set ?_ GE154.out | refine below_set ?_ GE155.out) | exact HB.out))) | (with_reducible refine Kd.C_alloc ?_ _) | (with_reducible refine Kd.C_drewN ?_ _) | (with_reducible refine Kd.C_drew ?_))); (case side4 => exact HC1_2.out); rintro e w' ⟨rfl, ⟨nd, rfl⟩⟩; (try first | exact ⟨rfl, _, World.drewN_drewN _ _ _⟩ | exact ⟨rfl, _, Eq.trans (World.drewN_drewN _ _ _) (congrArg (World.drewN _) (Nat.add_assoc _ _ _))⟩))); try go_wp2_with (first | (go_at_call 21; (with_reducible refine (lunetteref01_Same.calls k2 _ _ l0_1 _ _ l1_1 true _ ?side1 ?side2 ?side3 ?side4 A24.out).mono ?_); (case side1 => repeat (first | exact (Kd.C_below HR0_1.out HB.out) | (with_reducible refine Kd.C_alloc ?_ _) | (with_reducible refine Kd.C_drewN ?_ _) | (with_reducible refine Kd.C_drew ?_))); (case side2 => exact HC0_1.out); (case side3 => repeat (first | exact (Kd.C_below HR1_1.out HB.out) | (with_reducible refine Kd.C_alloc ?_ _) | (with_reducible refine Kd.C_drewN ?_ _) | (with_reducible refine Kd.C_drew ?_))); (case side4 => exact HC1_1.out); rintro e w' ⟨rfl, ⟨nd, rfl⟩⟩; (try first | exact ⟨rfl, _, World.drewN_drewN _ _ _⟩ | exact ⟨rfl, _, Eq.trans (World.drewN_drewN _ _ _) (congrArg (World.drewN _) (Nat.add_assoc _ _ _))⟩)) | (go_at_call 21; (with_reducible refine (lunetteref01_Same.calls k2 _ _ l0_2 _ _ l1_2 t159 _ ?side1 ?side2 ?side3 ?side4 A26.out).mono ?_); (case side1 => repeat (first | exact (Kd.C_below HR0_2.out (by repeat (first | (with_reducible first | exact HB.out | apply below_alloc | apply pw_below_drewN | apply below_drew1 | refine below_set ?_ GE154.out | refine below_set ?_ GE155.out) | exact HB.out))) | (with_reducible refine Kd.C_alloc ?_ _) | (with_reducible refine Kd.C_drewN ?_ _) | (with_reducible refine Kd.C_drew ?_))); (case side2 => exact HC0_2.out); (case side3 => repeat (first | exact (Kd.C_below HR1_2.out (by repeat (first | (with_reducible first | exact HB.out | apply below_alloc | apply pw_below_drewN | apply below_drew1 | refine below_set ?_ GE154.out | refine below_set ?_ GE155.out) | exact HB.out))) | (with_reducible refine Kd.C_alloc ?_ _) | (with_reducible refine Kd.C_drewN ?_ _) | (with_reducible refine Kd.C_drew ?_))); (case side4 => exact HC1_2.out); rintro e w' ⟨rfl, ⟨nd, rfl⟩⟩; (try first | exact ⟨rfl, _, World.drewN_drewN _ _ _⟩ | exact ⟨rfl, _, Eq.trans (World.drewN_drewN _ _ _) (congrArg (World.drewN _) (Nat.add_assoc _ _ _))⟩))))
                go_ret
                exact ⟨by first | rfl | (simp [errW_none, errW_some] <;> rfl) | (simp [*, errW_none, errW_some] <;> rfl), by repeat (first | (with_reducible first | exact HB.out | apply below_alloc | apply pw_below_drewN | apply below_drew1 | refine below_set ?_ GE154.out | refine below_set ?_ GE155.out) | exact HB.out)⟩
              · replace c25 := Bool.eq_false_iff.mpr c25
                subst c25
                have H1 : (some false) = some r := by rw [if_neg (show ¬ (false = true) by decide)] at H; exact H
                clear H
                have H := H1
                clear H1
                obtain rfl := Option.some.inj H
                have hnb30 := NB154_155.out
                have hnc30 := NB155_154.out
                have hcz31_0 : wr.cell? ⟨gb154, 0, none⟩ = some (.bool a0_0) := (blk_cell BK154.out 0).trans rfl
                have hcz31_1 : wr.cell? ⟨gb154, 1, none⟩ = some (.slice A0_1 l0_1.length c0_1) := (blk_cell BK154.out 1).trans rfl
                have hcz31_2 : wr.cell? ⟨gb154, 2, none⟩ = some (.slice A0_2 l0_2.length c0_2) := (blk_cell BK154.out 2).trans rfl
                have hcz31_3 : wr.cell? ⟨gb154, 3, none⟩ = some (.slice A0_3 l0_3.length c0_3) := (blk_cell BK154.out 3).trans rfl
                have hfz31_0 := blk_frozen BK154.out 0
                have hfz31_1 := blk_frozen BK154.out 1
                have hfz31_2 := blk_frozen BK154.out 2
                have hfz31_3 := blk_frozen BK154.out 3
                have hcz32_0 : wr.cell? ⟨gb155, 0, none⟩ = some (.bool a1_0) := (blk_cell BK155.out 0).trans rfl
                have hcz32_1 : wr.cell? ⟨gb155, 1, none⟩ = some (.slice A1_1 l1_1.length c1_1) := (blk_cell BK155.out 1).trans rfl
                have hcz32_2 : wr.cell? ⟨gb155, 2, none⟩ = some (.slice A1_2 l1_2.length c1_2) := (blk_cell BK155.out 2).trans rfl
                have hcz32_3 : wr.cell? ⟨gb155, 3, none⟩ = some (.slice A1_3 l1_3.length c1_3) := (blk_cell BK155.out 3).trans rfl
                have hfz32_0 := blk_frozen BK155.out 0
                have hfz32_1 := blk_frozen BK155.out 1
                have hfz32_2 := blk_frozen BK155.out 2
                have hfz32_3 := blk_frozen BK155.out 3
                go_wp2_with (first | (go_at_call 21; (with_reducible refine (lunetteref01_Same.calls k2 _ _ l0_1 _ _ l1_1 false _ ?side1 ?side2 ?side3 ?side4 A24.out).mono ?_); (case side1 => repeat (first | exact (Kd.C_below HR0_1.out HB.out) | (with_reducible refine Kd.C_alloc ?_ _) | (with_reducible refine Kd.C_drewN ?_ _) | (with_reducible refine Kd.C_drew ?_))); (case side2 => exact HC0_1.out); (case side3 => repeat (first | exact (Kd.C_below HR1_1.out HB.out) | (with_reducible refine Kd.C_alloc ?_ _) | (with_reducible refine Kd.C_drewN ?_ _) | (with_reducible refine Kd.C_drew ?_))); (case side4 => exact HC1_1.out); rintro e w' ⟨rfl, ⟨nd, rfl⟩⟩; (try first | exact ⟨rfl, _, World.drewN_drewN _ _ _⟩ | exact ⟨rfl, _, Eq.trans (World.drewN_drewN _ _ _) (congrArg (World.drewN _) (Nat.add_assoc _ _ _))⟩)))
                repeat (go_quiet (first | (go_at_call 21; (with_reducible refine (lunetteref01_Same.calls k2 _ _ l0_1 _ _ l1_1 false _ ?side1 ?side2 ?side3 ?side4 A24.out).mono ?_); (case side1 => repeat (first | exact (Kd.C_below HR0_1.out HB.out) | (with_reducible refine Kd.C_alloc ?_ _) | (with_reducible refine Kd.C_drewN ?_ _) | (with_reducible refine Kd.C_drew ?_))); (case side2 => exact HC0_1.out); (case side3 => repeat (first | exact (Kd.C_below HR1_1.out HB.out) | (with_reducible refine Kd.C_alloc ?_ _) | (with_reducible refine Kd.C_drewN ?_ _) | (with_reducible refine Kd.C_drew ?_))); (case side4 => exact HC1_1.out); rintro e w' ⟨rfl, ⟨nd, rfl⟩⟩; (try first | exact ⟨rfl, _, World.drewN_drewN _ _ _⟩ | exact ⟨rfl, _, Eq.trans (World.drewN_drewN _ _ _) (congrArg (World.drewN _) (Nat.add_assoc _ _ _))⟩))); try go_wp2_with (first | (go_at_call 21; (with_reducible refine (lunetteref01_Same.calls k2 _ _ l0_1 _ _ l1_1 false _ ?side1 ?side2 ?side3 ?side4 A24.out).mono ?_); (case side1 => repeat (first | exact (Kd.C_below HR0_1.out HB.out) | (with_reducible refine Kd.C_alloc ?_ _) | (with_reducible refine Kd.C_drewN ?_ _) | (with_reducible refine Kd.C_drew ?_))); (case side2 => exact HC0_1.out); (case side3 => repeat (first | exact (Kd.C_below HR1_1.out HB.out) | (with_reducible refine Kd.C_alloc ?_ _) | (with_reducible refine Kd.C_drewN ?_ _) | (with_reducible refine Kd.C_drew ?_))); (case side4 => exact HC1_1.out); rintro e w' ⟨rfl, ⟨nd, rfl⟩⟩; (try first | exact ⟨rfl, _, World.drewN_drewN _ _ _⟩ | exact ⟨rfl, _, Eq.trans (World.drewN_drewN _ _ _) (congrArg (World.drewN _) (Nat.add_assoc _ _ _))⟩))))
                go_ret
                exact ⟨by first | rfl | (simp [errW_none, errW_some] <;> rfl) | (simp [*, errW_none, errW_some] <;> rfl), by repeat (first | (with_reducible first | exact HB.out | apply below_alloc | apply pw_below_drewN | apply below_drew1 | refine below_set ?_ GE154.out | refine below_set ?_ GE155.out) | exact HB.out)⟩

-- NOT PRINTED: function 42 (sort_Search)

/-! ### lunettelaw05_awake: function 13 -/
def lunettelaw05_awake.f (k : Nat)  : Option (Bool) := (some (([(⟨#[97]⟩ : ByteArray), (⟨#[98]⟩ : ByteArray)] : List ByteArray) : List ByteArray)).bind fun y160 => ((some (([(⟨#[120]⟩ : ByteArray), (⟨#[]⟩ : ByteArray)] : List ByteArray) : List ByteArray)).bind fun y163 => ((node_Cells.f k true y160 y163 ([] : List Int)).bind fun bt167 => ((node_Of.f k true (([(⟨#[1, 97, 120]⟩ : ByteArray), (⟨#[1, 98]⟩ : ByteArray)] : List ByteArray))).bind fun bt174 => ((node_Find.f true y160 y163 ([] : List Int) (⟨#[97, 97]⟩ : ByteArray)).bind fun bt186 => ((lunetteref01_Same.f k bt167.1 (([(⟨#[1, 97, 120]⟩ : ByteArray), (⟨#[1, 98]⟩ : ByteArray)] : List ByteArray))).bind fun t191 => (if t191 = true then (if bt167.2 = 0 then ((lunetteref05_Same.f k true y160 y163 ([] : List Int) bt174.1 bt174.2.1 bt174.2.2.1 bt174.2.2.2.1).bind fun t192 => (if t192 = true then (if bt174.2.2.2.2 = 0 then (if bt186.1 = 1 then (if bt186.2 = true then (none) else ((node_Room.f k true y160 y163 ([] : List Int)).bind fun t193 => (if t193 = 9 then ((node_Check.f true y160 y163 ([] : List Int)).bind fun t194 => (some (t194 == 0))) else (none)))) else (none)) else (none)) else (none))) else (none)) else (none)))))))
theorem lunettelaw05_awake.mono : ∀ k, LeO (lunettelaw05_awake.f k ) (lunettelaw05_awake.f (k + 1) ) := by
  intro  k
  unfold lunettelaw05_awake.f
  repeat' first
      | (with_reducible exact lunetteref01_Same.mono _ _ _)
      | (with_reducible exact lunetteref05_Same.mono _ _ _ _ _ _ _ _ _)
      | (with_reducible exact node_Cells.mono _ _ _ _ _)
      | (with_reducible exact node_Of.mono _ _ _)
      | (with_reducible exact node_Room.mono _ _ _ _ _)
      | (with_reducible exact LeO.refl _)
      | (with_reducible exact LeO.none _)
      | (with_reducible refine LeO.ite ?_ ?_)
      | (with_reducible refine LeO.bind ?_ (fun _ => ?_))
      | exact lunetteref01_Same.mono _ _ _
      | exact lunetteref05_Same.mono _ _ _ _ _ _ _ _ _
      | exact node_Cells.mono _ _ _ _ _
      | exact node_Of.mono _ _ _
      | exact node_Room.mono _ _ _ _ _
      | exact LeO.none _
      | refine LeO.ite ?_ ?_
      | refine LeO.bind ?_ (fun _ => ?_)
set_option maxHeartbeats 8000000 in
set_option maxRecDepth 100000 in
theorem lunettelaw05_awake.calls (k : Nat)  (r : Bool) (w : World) (h : lunettelaw05_awake.f k  = some r) :
    Calls Try.prog 13 #[] w fun e w' => e = .returned (.bool r) ∧ Below w.heap.size w w' := by
  have hu25 := Try.underlying25
  have HB := Aside0.mk (Below.refl w.heap.size w)
  have H : ((some (([(⟨#[97]⟩ : ByteArray), (⟨#[98]⟩ : ByteArray)] : List ByteArray) : List ByteArray)).bind fun y160 => ((some (([(⟨#[120]⟩ : ByteArray), (⟨#[]⟩ : ByteArray)] : List ByteArray) : List ByteArray)).bind fun y163 => ((node_Cells.f k true y160 y163 ([] : List Int)).bind fun bt167 => ((node_Of.f k true (([(⟨#[1, 97, 120]⟩ : ByteArray), (⟨#[1, 98]⟩ : ByteArray)] : List ByteArray))).bind fun bt174 => ((node_Find.f true y160 y163 ([] : List Int) (⟨#[97, 97]⟩ : ByteArray)).bind fun bt186 => ((lunetteref01_Same.f k bt167.1 (([(⟨#[1, 97, 120]⟩ : ByteArray), (⟨#[1, 98]⟩ : ByteArray)] : List ByteArray))).bind fun t191 => (if t191 = true then (if bt167.2 = 0 then ((lunetteref05_Same.f k true y160 y163 ([] : List Int) bt174.1 bt174.2.1 bt174.2.2.1 bt174.2.2.2.1).bind fun t192 => (if t192 = true then (if bt174.2.2.2.2 = 0 then (if bt186.1 = 1 then (if bt186.2 = true then (none) else ((node_Room.f k true y160 y163 ([] : List Int)).bind fun t193 => (if t193 = 9 then ((node_Check.f true y160 y163 ([] : List Int)).bind fun t194 => (some (t194 == 0))) else (none)))) else (none)) else (none)) else (none))) else (none)) else (none)))))))) = some r := h
  clear h
  obtain ⟨y160, hy160⟩ : ∃ y_ : List ByteArray, y_ = (([(⟨#[97]⟩ : ByteArray), (⟨#[98]⟩ : ByteArray)] : List ByteArray)) := ⟨_, rfl⟩
  replace H : ((some (([(⟨#[120]⟩ : ByteArray), (⟨#[]⟩ : ByteArray)] : List ByteArray) : List ByteArray)).bind fun y163 => ((node_Cells.f k true y160 y163 ([] : List Int)).bind fun bt167 => ((node_Of.f k true (([(⟨#[1, 97, 120]⟩ : ByteArray), (⟨#[1, 98]⟩ : ByteArray)] : List ByteArray))).bind fun bt174 => ((node_Find.f true y160 y163 ([] : List Int) (⟨#[97, 97]⟩ : ByteArray)).bind fun bt186 => ((lunetteref01_Same.f k bt167.1 (([(⟨#[1, 97, 120]⟩ : ByteArray), (⟨#[1, 98]⟩ : ByteArray)] : List ByteArray))).bind fun t191 => (if t191 = true then (if bt167.2 = 0 then ((lunetteref05_Same.f k true y160 y163 ([] : List Int) bt174.1 bt174.2.1 bt174.2.2.1 bt174.2.2.2.1).bind fun t192 => (if t192 = true then (if bt174.2.2.2.2 = 0 then (if bt186.1 = 1 then (if bt186.2 = true then (none) else ((node_Room.f k true y160 y163 ([] : List Int)).bind fun t193 => (if t193 = 9 then ((node_Check.f true y160 y163 ([] : List Int)).bind fun t194 => (some (t194 == 0))) else (none)))) else (none)) else (none)) else (none))) else (none)) else (none))))))) = some r := by first | (rw [hy160]; with_reducible exact H) | (have H2_ := (Option.bind_some _ _).symm.trans H; rw [hy160]; with_reducible exact H2_) | (have H2_ := (Option.bind_some _ _).symm.trans H; with_reducible exact H2_) | with_reducible exact H | (rw [hy160]; exact H) | exact H
  have Ny160 := Aside0.mk hy160
  clear hy160
  obtain ⟨y163, hy163⟩ : ∃ y_ : List ByteArray, y_ = (([(⟨#[120]⟩ : ByteArray), (⟨#[]⟩ : ByteArray)] : List ByteArray)) := ⟨_, rfl⟩
  replace H : ((node_Cells.f k true y160 y163 ([] : List Int)).bind fun bt167 => ((node_Of.f k true (([(⟨#[1, 97, 120]⟩ : ByteArray), (⟨#[1, 98]⟩ : ByteArray)] : List ByteArray))).bind fun bt174 => ((node_Find.f true y160 y163 ([] : List Int) (⟨#[97, 97]⟩ : ByteArray)).bind fun bt186 => ((lunetteref01_Same.f k bt167.1 (([(⟨#[1, 97, 120]⟩ : ByteArray), (⟨#[1, 98]⟩ : ByteArray)] : List ByteArray))).bind fun t191 => (if t191 = true then (if bt167.2 = 0 then ((lunetteref05_Same.f k true y160 y163 ([] : List Int) bt174.1 bt174.2.1 bt174.2.2.1 bt174.2.2.2.1).bind fun t192 => (if t192 = true then (if bt174.2.2.2.2 = 0 then (if bt186.1 = 1 then (if bt186.2 = true then (none) else ((node_Room.f k true y160 y163 ([] : List Int)).bind fun t193 => (if t193 = 9 then ((node_Check.f true y160 y163 ([] : List Int)).bind fun t194 => (some (t194 == 0))) else (none)))) else (none)) else (none)) else (none))) else (none)) else (none)))))) = some r := by first | (rw [hy163]; with_reducible exact H) | (have H2_ := (Option.bind_some _ _).symm.trans H; rw [hy163]; with_reducible exact H2_) | (have H2_ := (Option.bind_some _ _).symm.trans H; with_reducible exact H2_) | with_reducible exact H | (rw [hy163]; exact H) | exact H
  have Ny163 := Aside0.mk hy163
  clear hy163
  replace H := Option.bind_eq_some_iff.mp H
  obtain ⟨⟨t167, t170⟩, A10, H⟩ := H
  replace H : ((node_Of.f k true (([(⟨#[1, 97, 120]⟩ : ByteArray), (⟨#[1, 98]⟩ : ByteArray)] : List ByteArray))).bind fun bt174 => ((node_Find.f true y160 y163 ([] : List Int) (⟨#[97, 97]⟩ : ByteArray)).bind fun bt186 => ((lunetteref01_Same.f k t167 (([(⟨#[1, 97, 120]⟩ : ByteArray), (⟨#[1, 98]⟩ : ByteArray)] : List ByteArray))).bind fun t191 => (if t191 = true then (if t170 = 0 then ((lunetteref05_Same.f k true y160 y163 ([] : List Int) bt174.1 bt174.2.1 bt174.2.2.1 bt174.2.2.2.1).bind fun t192 => (if t192 = true then (if bt174.2.2.2.2 = 0 then (if bt186.1 = 1 then (if bt186.2 = true then (none) else ((node_Room.f k true y160 y163 ([] : List Int)).bind fun t193 => (if t193 = 9 then ((node_Check.f true y160 y163 ([] : List Int)).bind fun t194 => (some (t194 == 0))) else (none)))) else (none)) else (none)) else (none))) else (none)) else (none))))) = some r := H
  have A1 := Aside0.mk A10
  clear A10
  obtain ⟨y171, hy171⟩ : ∃ y_ : List ByteArray, y_ = (([(⟨#[1, 97, 120]⟩ : ByteArray), (⟨#[1, 98]⟩ : ByteArray)] : List ByteArray)) := ⟨_, rfl⟩
  replace H : ((node_Of.f k true y171).bind fun bt174 => ((node_Find.f true y160 y163 ([] : List Int) (⟨#[97, 97]⟩ : ByteArray)).bind fun bt186 => ((lunetteref01_Same.f k t167 (([(⟨#[1, 97, 120]⟩ : ByteArray), (⟨#[1, 98]⟩ : ByteArray)] : List ByteArray))).bind fun t191 => (if t191 = true then (if t170 = 0 then ((lunetteref05_Same.f k true y160 y163 ([] : List Int) bt174.1 bt174.2.1 bt174.2.2.1 bt174.2.2.2.1).bind fun t192 => (if t192 = true then (if bt174.2.2.2.2 = 0 then (if bt186.1 = 1 then (if bt186.2 = true then (none) else ((node_Room.f k true y160 y163 ([] : List Int)).bind fun t193 => (if t193 = 9 then ((node_Check.f true y160 y163 ([] : List Int)).bind fun t194 => (some (t194 == 0))) else (none)))) else (none)) else (none)) else (none))) else (none)) else (none))))) = some r := by first | (rw [hy171]; with_reducible exact H) | (have H2_ := (Option.bind_some _ _).symm.trans H; rw [hy171]; with_reducible exact H2_) | (have H2_ := (Option.bind_some _ _).symm.trans H; with_reducible exact H2_) | with_reducible exact H | (rw [hy171]; exact H) | exact H
  have Ny171 := Aside0.mk hy171
  clear hy171
  replace H := Option.bind_eq_some_iff.mp H
  obtain ⟨⟨t174, t175, t178, t181, t184⟩, A20, H⟩ := H
  replace H : ((node_Find.f true y160 y163 ([] : List Int) (⟨#[97, 97]⟩ : ByteArray)).bind fun bt186 => ((lunetteref01_Same.f k t167 (([(⟨#[1, 97, 120]⟩ : ByteArray), (⟨#[1, 98]⟩ : ByteArray)] : List ByteArray))).bind fun t191 => (if t191 = true then (if t170 = 0 then ((lunetteref05_Same.f k true y160 y163 ([] : List Int) t174 t175 t178 t181).bind fun t192 => (if t192 = true then (if t184 = 0 then (if bt186.1 = 1 then (if bt186.2 = true then (none) else ((node_Room.f k true y160 y163 ([] : List Int)).bind fun t193 => (if t193 = 9 then ((node_Check.f true y160 y163 ([] : List Int)).bind fun t194 => (some (t194 == 0))) else (none)))) else (none)) else (none)) else (none))) else (none)) else (none)))) = some r := H
  have A2 := Aside0.mk A20
  clear A20
  replace H := Option.bind_eq_some_iff.mp H
  obtain ⟨⟨t186, t187⟩, A30, H⟩ := H
  replace H : ((lunetteref01_Same.f k t167 (([(⟨#[1, 97, 120]⟩ : ByteArray), (⟨#[1, 98]⟩ : ByteArray)] : List ByteArray))).bind fun t191 => (if t191 = true then (if t170 = 0 then ((lunetteref05_Same.f k true y160 y163 ([] : List Int) t174 t175 t178 t181).bind fun t192 => (if t192 = true then (if t184 = 0 then (if t186 = 1 then (if t187 = true then (none) else ((node_Room.f k true y160 y163 ([] : List Int)).bind fun t193 => (if t193 = 9 then ((node_Check.f true y160 y163 ([] : List Int)).bind fun t194 => (some (t194 == 0))) else (none)))) else (none)) else (none)) else (none))) else (none)) else (none))) = some r := H
  have A3 := Aside0.mk A30
  clear A30
  obtain ⟨y188, hy188⟩ : ∃ y_ : List ByteArray, y_ = (([(⟨#[1, 97, 120]⟩ : ByteArray), (⟨#[1, 98]⟩ : ByteArray)] : List ByteArray)) := ⟨_, rfl⟩
  replace H : ((lunetteref01_Same.f k t167 y188).bind fun t191 => (if t191 = true then (if t170 = 0 then ((lunetteref05_Same.f k true y160 y163 ([] : List Int) t174 t175 t178 t181).bind fun t192 => (if t192 = true then (if t184 = 0 then (if t186 = 1 then (if t187 = true then (none) else ((node_Room.f k true y160 y163 ([] : List Int)).bind fun t193 => (if t193 = 9 then ((node_Check.f true y160 y163 ([] : List Int)).bind fun t194 => (some (t194 == 0))) else (none)))) else (none)) else (none)) else (none))) else (none)) else (none))) = some r := by first | (rw [hy188]; with_reducible exact H) | (have H2_ := (Option.bind_some _ _).symm.trans H; rw [hy188]; with_reducible exact H2_) | (have H2_ := (Option.bind_some _ _).symm.trans H; with_reducible exact H2_) | with_reducible exact H | (rw [hy188]; exact H) | exact H
  have Ny188 := Aside0.mk hy188
  clear hy188
  replace H := Option.bind_eq_some_iff.mp H
  obtain ⟨t191, A40, H⟩ := H
  replace H : (if t191 = true then (if t170 = 0 then ((lunetteref05_Same.f k true y160 y163 ([] : List Int) t174 t175 t178 t181).bind fun t192 => (if t192 = true then (if t184 = 0 then (if t186 = 1 then (if t187 = true then (none) else ((node_Room.f k true y160 y163 ([] : List Int)).bind fun t193 => (if t193 = 9 then ((node_Check.f true y160 y163 ([] : List Int)).bind fun t194 => (some (t194 == 0))) else (none)))) else (none)) else (none)) else (none))) else (none)) else (none)) = some r := H
  have A4 := Aside0.mk A40
  clear A40
  by_cases c5 : t191 = true
  · subst c5
    have H1 : (if t170 = 0 then ((lunetteref05_Same.f k true y160 y163 ([] : List Int) t174 t175 t178 t181).bind fun t192 => (if t192 = true then (if t184 = 0 then (if t186 = 1 then (if t187 = true then (none) else ((node_Room.f k true y160 y163 ([] : List Int)).bind fun t193 => (if t193 = 9 then ((node_Check.f true y160 y163 ([] : List Int)).bind fun t194 => (some (t194 == 0))) else (none)))) else (none)) else (none)) else (none))) else (none)) = some r := by rw [if_pos rfl] at H; exact H
    clear H
    have H := H1
    clear H1
    by_cases c6 : t170 = 0
    · rw [if_pos c6] at H
      have c6b0 : (t170 == 0) = true := beq_iff_eq.mpr c6
      have c6b1 : (t170 != 0) = false := bne_eq_false_iff_eq.mpr c6
      clear c6
      replace H := Option.bind_eq_some_iff.mp H
      obtain ⟨t192, A70, H⟩ := H
      replace H : (if t192 = true then (if t184 = 0 then (if t186 = 1 then (if t187 = true then (none) else ((node_Room.f k true y160 y163 ([] : List Int)).bind fun t193 => (if t193 = 9 then ((node_Check.f true y160 y163 ([] : List Int)).bind fun t194 => (some (t194 == 0))) else (none)))) else (none)) else (none)) else (none)) = some r := H
      have A7 := Aside0.mk A70
      clear A70
      by_cases c8 : t192 = true
      · subst c8
        have H1 : (if t184 = 0 then (if t186 = 1 then (if t187 = true then (none) else ((node_Room.f k true y160 y163 ([] : List Int)).bind fun t193 => (if t193 = 9 then ((node_Check.f true y160 y163 ([] : List Int)).bind fun t194 => (some (t194 == 0))) else (none)))) else (none)) else (none)) = some r := by rw [if_pos rfl] at H; exact H
        clear H
        have H := H1
        clear H1
        by_cases c9 : t184 = 0
        · rw [if_pos c9] at H
          have c9b0 : (t184 == 0) = true := beq_iff_eq.mpr c9
          have c9b1 : (t184 != 0) = false := bne_eq_false_iff_eq.mpr c9
          clear c9
          by_cases c10 : t186 = 1
          · rw [if_pos c10] at H
            have c10b0 : (t186 == 1) = true := beq_iff_eq.mpr c10
            have c10b1 : (t186 != 1) = false := bne_eq_false_iff_eq.mpr c10
            clear c10
            by_cases c11 : t187 = true
            · subst c11
              have H1 : (none) = some r := by rw [if_pos rfl] at H; exact H
              clear H
              have H := H1
              clear H1
              exact absurd H (by simp)
            · replace c11 := Bool.eq_false_iff.mpr c11
              subst c11
              have H1 : ((node_Room.f k true y160 y163 ([] : List Int)).bind fun t193 => (if t193 = 9 then ((node_Check.f true y160 y163 ([] : List Int)).bind fun t194 => (some (t194 == 0))) else (none))) = some r := by rw [if_neg (show ¬ (false = true) by decide)] at H; exact H
              clear H
              have H := H1
              clear H1
              replace H := Option.bind_eq_some_iff.mp H
              obtain ⟨t193, A120, H⟩ := H
              replace H : (if t193 = 9 then ((node_Check.f true y160 y163 ([] : List Int)).bind fun t194 => (some (t194 == 0))) else (none)) = some r := H
              have A12 := Aside0.mk A120
              clear A120
              by_cases c13 : t193 = 9
              · rw [if_pos c13] at H
                have c13b0 : (t193 == 9) = true := beq_iff_eq.mpr c13
                have c13b1 : (t193 != 9) = false := bne_eq_false_iff_eq.mpr c13
                clear c13
                replace H := Option.bind_eq_some_iff.mp H
                obtain ⟨t194, A140, H⟩ := H
                replace H : (some (t194 == 0)) = some r := H
                have A14 := Aside0.mk A140
                clear A140
                obtain rfl := Option.some.inj H
                go_enter Try.func13, Try.ntmps13
                go_wp2_with (first | ((with_reducible refine gate_dst (N := 8) rfl ?_); refine Kd.R_lit Kd.string _ 9 ?hg (N := 8) ?hd (xs := ([(⟨#[97]⟩ : ByteArray), (⟨#[98]⟩ : ByteArray)] : List ByteArray)) (inner := [.string (⟨#[97]⟩ : ByteArray), .string (⟨#[98]⟩ : ByteArray)]) (ok := fun _ => True) (okp := fun _ => True) ?hr ?hp (fun _ hk => hk) trivial (Below.refl _ _) (Nat.le_refl _) (by simp) ?_; (case hd => rfl); (case hg => rfl); (case hr => first | (go_simp; done) | (go_simp; rfl)); (case hp => exact (Reps.one (show Kd.M Kd.string _ _ _ (⟨#[97]⟩ : ByteArray) [.string (⟨#[97]⟩ : ByteArray)] from rfl) (Reps.one (show Kd.M Kd.string _ _ _ (⟨#[98]⟩ : ByteArray) [.string (⟨#[98]⟩ : ByteArray)] from rfl) (Reps.none _ _)))); intro v161 w15 ho16 hb hg_ hnew_; clear hg_ hnew_; (first | rw [← Ny160.out] at ho16 | (simp only [Int.reduceToNat] at ho16; rw [← Ny160.out] at ho16)); have n0_ := Aside0.mk (Kd.R_lower ho16 (below_size (by repeat (first | (with_reducible first | exact HB.out | apply below_alloc | apply pw_below_drewN | apply below_drew1) | exact HB.out)))); have n1_ := Aside0.mk (below_step (by repeat (first | (with_reducible first | exact HB.out | apply below_alloc | apply pw_below_drewN | apply below_drew1) | exact HB.out)) hb); clear HB; have HO162 := n0_; have HB := n1_; clear n0_ n1_; clear hb ho16) | ((with_reducible refine gate_dst (N := 9) rfl ?_); refine Kd.R_lit Kd.string _ 9 ?hg (N := 9) ?hd (xs := ([(⟨#[120]⟩ : ByteArray), (⟨#[]⟩ : ByteArray)] : List ByteArray)) (inner := [.string (⟨#[120]⟩ : ByteArray), .string (⟨#[]⟩ : ByteArray)]) (ok := fun _ => True) (okp := fun _ => True) ?hr ?hp (fun _ hk => hk) trivial (Below.refl _ _) (Nat.le_refl _) (by simp) ?_; (case hd => rfl); (case hg => rfl); (case hr => first | (go_simp; done) | (go_simp; rfl)); (case hp => exact (Reps.one (show Kd.M Kd.string _ _ _ (⟨#[120]⟩ : ByteArray) [.string (⟨#[120]⟩ : ByteArray)] from rfl) (Reps.one (show Kd.M Kd.string _ _ _ (⟨#[]⟩ : ByteArray) [.string (⟨#[]⟩ : ByteArray)] from rfl) (Reps.none _ _)))); intro v164 w17 ho18 hb hg_ hnew_; clear hg_ hnew_; (first | rw [← Ny163.out] at ho18 | (simp only [Int.reduceToNat] at ho18; rw [← Ny163.out] at ho18)); have n0_ := Aside0.mk (Kd.R_elder' (by (with_reducible repeat (first | apply Kd.R_alloc | apply Kd.R_drewN | apply Kd.R_drew)); exact HO162.out) (Kd.R_base ho18) hb); have n1_ := Aside0.mk (Kd.R_lower (Kd.R_new' ho18 (Kd.R_lt (by (with_reducible repeat (first | apply Kd.R_alloc | apply Kd.R_drewN | apply Kd.R_drew)); exact HO162.out))) (below_size (by repeat (first | (with_reducible first | exact HB.out | apply below_alloc | apply pw_below_drewN | apply below_drew1) | exact HB.out)))); have n2_ := Aside0.mk (below_step (by repeat (first | (with_reducible first | exact HB.out | apply below_alloc | apply pw_below_drewN | apply below_drew1) | exact HB.out)) hb); clear HO162; clear HB; have HO162 := n0_; have HO165 := n1_; have HB := n2_; clear n0_ n1_ n2_; clear hb ho18; obtain ⟨Ao19, co19, eo19⟩ := Kd.R_slice HO165.out; subst eo19; obtain ⟨Ao20, co20, eo20⟩ := Kd.R_slice HO162.out; subst eo20) | ((with_reducible refine gate_dst (N := 1) rfl ?_); refine box_event ?hg (N := 1) ?hd (cs := #[.bool false, .slice none 0 0, .slice none 0 0, .slice none 0 0]) (t := 25) ?hr ?_; (case hd => rfl); (case hg => rfl); (case hr => first | (go_simp; done) | (go_simp; rfl)); intro gb166 hg w21 hbox hb; have n0_ := Aside0.mk (Kd.R_below (by (with_reducible repeat (first | apply Kd.R_alloc | apply Kd.R_drewN | apply Kd.R_drew)); exact HO162.out) hb); have n1_ := Aside0.mk (Kd.R_below (by (with_reducible repeat (first | apply Kd.R_alloc | apply Kd.R_drewN | apply Kd.R_drew)); exact HO165.out) hb); have n2_ := Aside0.mk (below_step (by repeat (first | (with_reducible first | exact HB.out | apply below_alloc | apply pw_below_drewN | apply below_drew1) | exact HB.out)) hb); have n3_ := Aside0.mk (hbox); have n4_ := Aside0.mk ((by rw [hg]; exact (below_size (by repeat (first | (with_reducible first | exact HB.out | apply below_alloc | apply pw_below_drewN | apply below_drew1) | exact HB.out))) : w.heap.size ≤ gb166)); have n5_ := Aside0.mk ((by rw [hg]; exact (below_size (by repeat (first | (with_reducible first | exact HB.out | apply below_alloc | apply pw_below_drewN | apply below_drew1) | exact HB.out))) : w.heap.size ≤ gb166)); clear HO162; clear HO165; clear HB; have HO162 := n0_; have HO165 := n1_; have HB := n2_; have BK166 := n3_; have GW166 := n4_; have GE166 := n5_; clear n0_ n1_ n2_ n3_ n4_ n5_; clear hb hbox hg; have hcz22_0 : w21.cell? ⟨gb166, 0, none⟩ = some (.bool false) := (blk_cell BK166.out 0).trans rfl; have hcz22_1 : w21.cell? ⟨gb166, 1, none⟩ = some (.slice none 0 0) := (blk_cell BK166.out 1).trans rfl; have hcz22_2 : w21.cell? ⟨gb166, 2, none⟩ = some (.slice none 0 0) := (blk_cell BK166.out 2).trans rfl; have hcz22_3 : w21.cell? ⟨gb166, 3, none⟩ = some (.slice none 0 0) := (blk_cell BK166.out 3).trans rfl; have hfz22_0 := blk_frozen BK166.out 0; have hfz22_1 := blk_frozen BK166.out 1; have hfz22_2 := blk_frozen BK166.out 2; have hfz22_3 := blk_frozen BK166.out 3) | ((with_reducible refine gate_callee (f := 15) rfl ?_); refine goesL_ (some 13) rfl rfl Try.func15 (by kernel_rfl) rfl #[.agg #[.bool true, .slice Ao20 y160.length co20, .slice Ao19 y163.length co19, .slice none 0 0]] rfl (by (try simp only [List.map_toArray, List.map_cons, List.map_nil]); first | done | rfl | (simp only [List.length_drop, List.length_take]; rfl)) ?_; (refine (node_Cells.calls k true _ _ y160 _ _ y163 _ _ ([] : List Int) t167 t170 _ ?side1 ?side2 ?side3 ?side4 ?side5 ?side6 A1.out).mono ?_); (case side1 => refine (Kd.R_reads' (e := 9) (base := w.heap.size) (ok := fun k_ => (True ∧ some k_ ≠ (.slice Ao19 y163.length co19 : Value).ownBlock)) (n := y160.length) (c := co20) ?_).2.2; exact (by (with_reducible repeat (first | apply Kd.R_alloc | apply Kd.R_drewN | apply Kd.R_drew)); exact (Kd.R_mono (Kd.R_far (p := ⟨gb166, 3, none⟩) (Kd.R_far (p := ⟨gb166, 2, none⟩) (Kd.R_far (p := ⟨gb166, 1, none⟩) (Kd.R_far (p := ⟨gb166, 0, none⟩) (Kd.R_types HO162.out BK166.out (by decide)) (fun _ hk => hk.2) (.bool true)) (fun _ hk => hk.2) (.slice Ao20 y160.length co20)) (fun _ hk => hk.2) (.slice Ao19 y163.length co19)) (fun _ hk => hk.2) (.slice none 0 0)) (fun _ h_ => h_.1)))); (case side2 => exact (Kd.R_reads' HO162.out).2.1); (case side3 => refine (Kd.R_reads' (e := 9) (base := w.heap.size) (ok := fun k_ => (True ∧ some k_ ≠ (.slice Ao20 y160.length co20 : Value).ownBlock)) (n := y163.length) (c := co19) ?_).2.2; exact (by (with_reducible repeat (first | apply Kd.R_alloc | apply Kd.R_drewN | apply Kd.R_drew)); exact (Kd.R_mono (Kd.R_far (p := ⟨gb166, 3, none⟩) (Kd.R_far (p := ⟨gb166, 2, none⟩) (Kd.R_far (p := ⟨gb166, 1, none⟩) (Kd.R_far (p := ⟨gb166, 0, none⟩) (Kd.R_types HO165.out BK166.out (by decide)) (fun _ hk => hk.2) (.bool true)) (fun _ hk => hk.2) (.slice Ao20 y160.length co20)) (fun _ hk => hk.2) (.slice Ao19 y163.length co19)) (fun _ hk => hk.2) (.slice none 0 0)) (fun _ h_ => h_.1)))); (case side4 => exact (Kd.R_reads' HO165.out).2.1); (case side5 => exact Kd.C_nil _ _); (case side6 => exact Nat.le_refl _); rintro e w23 ⟨v168, rfl, ho0, hb⟩; refine ⟨_, rfl, ?_⟩; have n0_ := Aside0.mk (Kd.R_elder' (by (with_reducible repeat (first | apply Kd.R_alloc | apply Kd.R_drewN | apply Kd.R_drew)); exact (Kd.R_mono (Kd.R_far (p := ⟨gb166, 3, none⟩) (Kd.R_far (p := ⟨gb166, 2, none⟩) (Kd.R_far (p := ⟨gb166, 1, none⟩) (Kd.R_far (p := ⟨gb166, 0, none⟩) (Kd.R_types HO162.out BK166.out (by decide)) (fun _ hk => hk.2) (.bool true)) (fun _ hk => hk.2) (.slice Ao20 y160.length co20)) (fun _ hk => hk.2) (.slice Ao19 y163.length co19)) (fun _ hk => hk.2) (.slice none 0 0)) (fun _ h_ => h_.1))) (Kd.R_base ho0) hb); have n1_ := Aside0.mk (Kd.R_elder' (by (with_reducible repeat (first | apply Kd.R_alloc | apply Kd.R_drewN | apply Kd.R_drew)); exact (Kd.R_mono (Kd.R_far (p := ⟨gb166, 3, none⟩) (Kd.R_far (p := ⟨gb166, 2, none⟩) (Kd.R_far (p := ⟨gb166, 1, none⟩) (Kd.R_far (p := ⟨gb166, 0, none⟩) (Kd.R_types HO165.out BK166.out (by decide)) (fun _ hk => hk.2) (.bool true)) (fun _ hk => hk.2) (.slice Ao20 y160.length co20)) (fun _ hk => hk.2) (.slice Ao19 y163.length co19)) (fun _ hk => hk.2) (.slice none 0 0)) (fun _ h_ => h_.1))) (Kd.R_base ho0) hb); have n2_ := Aside0.mk (Kd.R_lower (Kd.R_new' (Kd.R_new' ho0 (Kd.R_lt (by (with_reducible repeat (first | apply Kd.R_alloc | apply Kd.R_drewN | apply Kd.R_drew)); exact (Kd.R_mono (Kd.R_far (p := ⟨gb166, 3, none⟩) (Kd.R_far (p := ⟨gb166, 2, none⟩) (Kd.R_far (p := ⟨gb166, 1, none⟩) (Kd.R_far (p := ⟨gb166, 0, none⟩) (Kd.R_types HO162.out BK166.out (by decide)) (fun _ hk => hk.2) (.bool true)) (fun _ hk => hk.2) (.slice Ao20 y160.length co20)) (fun _ hk => hk.2) (.slice Ao19 y163.length co19)) (fun _ hk => hk.2) (.slice none 0 0)) (fun _ h_ => h_.1))))) (Kd.R_lt (by (with_reducible repeat (first | apply Kd.R_alloc | apply Kd.R_drewN | apply Kd.R_drew)); exact (Kd.R_mono (Kd.R_far (p := ⟨gb166, 3, none⟩) (Kd.R_far (p := ⟨gb166, 2, none⟩) (Kd.R_far (p := ⟨gb166, 1, none⟩) (Kd.R_far (p := ⟨gb166, 0, none⟩) (Kd.R_types HO165.out BK166.out (by decide)) (fun _ hk => hk.2) (.bool true)) (fun _ hk => hk.2) (.slice Ao20 y160.length co20)) (fun _ hk => hk.2) (.slice Ao19 y163.length co19)) (fun _ hk => hk.2) (.slice none 0 0)) (fun _ h_ => h_.1))))) (below_size (by repeat (first | (with_reducible first | exact HB.out | apply below_alloc | apply pw_below_drewN | apply below_drew1 | refine below_set ?_ GE166.out) | exact HB.out)))); have n3_ := Aside0.mk (blk_below (g := gb166) (o := .cells #[.bool true, .slice Ao20 y160.length co20, .slice Ao19 y163.length co19, .slice none 0 0] 25 (0, 0)) (by (with_reducible repeat (first | refine blk_drewN ?_ _ | refine blk_drew ?_ | refine blk_alloc ?_ _)); refine blk_put (cs := #[.bool true, .slice Ao20 y160.length co20, .slice Ao19 y163.length co19, .slice none 0 0]) ?_ 3 _ rfl; (with_reducible repeat (first | refine blk_drewN ?_ _ | refine blk_drew ?_ | refine blk_alloc ?_ _)); refine blk_put (cs := #[.bool true, .slice Ao20 y160.length co20, .slice none 0 0, .slice none 0 0]) ?_ 2 _ rfl; (with_reducible repeat (first | refine blk_drewN ?_ _ | refine blk_drew ?_ | refine blk_alloc ?_ _)); refine blk_put (cs := #[.bool true, .slice none 0 0, .slice none 0 0, .slice none 0 0]) ?_ 1 _ rfl; (with_reducible repeat (first | refine blk_drewN ?_ _ | refine blk_drew ?_ | refine blk_alloc ?_ _)); refine blk_put (cs := #[.bool false, .slice none 0 0, .slice none 0 0, .slice none 0 0]) ?_ 0 _ rfl; (with_reducible repeat (first | refine blk_drewN ?_ _ | refine blk_drew ?_ | refine blk_alloc ?_ _)); exact BK166.out) hb); have n4_ := Aside0.mk (below_step (by repeat (first | (with_reducible first | exact HB.out | apply below_alloc | apply pw_below_drewN | apply below_drew1 | refine below_set ?_ GE166.out) | exact HB.out)) hb); clear HO162; clear HO165; clear BK166; clear HB; have HO162 := n0_; have HO165 := n1_; have HO169 := n2_; have BK166 := n3_; have HB := n4_; clear n0_ n1_ n2_ n3_ n4_; (try clear hb); (try clear hb2); (try clear hk); (try clear hi); (try clear ho0)) | ((with_reducible refine gate_dst (N := 17) rfl ?_); refine Kd.R_lit Kd.string _ 9 ?hg (N := 17) ?hd (xs := ([(⟨#[1, 97, 120]⟩ : ByteArray), (⟨#[1, 98]⟩ : ByteArray)] : List ByteArray)) (inner := [.string (⟨#[1, 97, 120]⟩ : ByteArray), .string (⟨#[1, 98]⟩ : ByteArray)]) (ok := fun _ => True) (okp := fun _ => True) ?hr ?hp (fun _ hk => hk) trivial (Below.refl _ _) (Nat.le_refl _) (by simp) ?_; (case hd => rfl); (case hg => rfl); (case hr => first | (go_simp; done) | (go_simp; rfl)); (case hp => exact (Reps.one (show Kd.M Kd.string _ _ _ (⟨#[1, 97, 120]⟩ : ByteArray) [.string (⟨#[1, 97, 120]⟩ : ByteArray)] from rfl) (Reps.one (show Kd.M Kd.string _ _ _ (⟨#[1, 98]⟩ : ByteArray) [.string (⟨#[1, 98]⟩ : ByteArray)] from rfl) (Reps.none _ _)))); intro v172 w24 ho25 hb hg_ hnew_; clear hg_ hnew_; (first | rw [← Ny171.out] at ho25 | (simp only [Int.reduceToNat] at ho25; rw [← Ny171.out] at ho25)); have n0_ := Aside0.mk (Kd.R_elder' (by (with_reducible repeat (first | apply Kd.R_alloc | apply Kd.R_drewN | apply Kd.R_drew)); exact HO162.out) (Kd.R_base ho25) hb); have n1_ := Aside0.mk (Kd.R_elder' (by (with_reducible repeat (first | apply Kd.R_alloc | apply Kd.R_drewN | apply Kd.R_drew)); exact HO165.out) (Kd.R_base ho25) hb); have n2_ := Aside0.mk (Kd.R_elder' (by (with_reducible repeat (first | apply Kd.R_alloc | apply Kd.R_drewN | apply Kd.R_drew)); exact HO169.out) (Kd.R_base ho25) hb); have n3_ := Aside0.mk (Kd.R_lower (Kd.R_new' (Kd.R_new' (Kd.R_new' ho25 (Kd.R_lt (by (with_reducible repeat (first | apply Kd.R_alloc | apply Kd.R_drewN | apply Kd.R_drew)); exact HO162.out))) (Kd.R_lt (by (with_reducible repeat (first | apply Kd.R_alloc | apply Kd.R_drewN | apply Kd.R_drew)); exact HO165.out))) (Kd.R_lt (by (with_reducible repeat (first | apply Kd.R_alloc | apply Kd.R_drewN | apply Kd.R_drew)); exact HO169.out))) (below_size (by repeat (first | (with_reducible first | exact HB.out | apply below_alloc | apply pw_below_drewN | apply below_drew1 | refine below_set ?_ GE166.out) | exact HB.out)))); have n4_ := Aside0.mk (blk_below (g := gb166) (o := .cells #[.bool true, .slice Ao20 y160.length co20, .slice Ao19 y163.length co19, .slice none 0 0] 25 (0, 0)) (by (with_reducible repeat (first | refine blk_drewN ?_ _ | refine blk_drew ?_ | refine blk_alloc ?_ _)); exact BK166.out) hb); have n5_ := Aside0.mk (below_step (by repeat (first | (with_reducible first | exact HB.out | apply below_alloc | apply pw_below_drewN | apply below_drew1 | refine below_set ?_ GE166.out) | exact HB.out)) hb); clear HO162; clear HO165; clear HO169; clear BK166; clear HB; have HO162 := n0_; have HO165 := n1_; have HO169 := n2_; have HO173 := n3_; have BK166 := n4_; have HB := n5_; clear n0_ n1_ n2_ n3_ n4_ n5_; clear hb ho25; obtain ⟨Ao26, co26, eo26⟩ := Kd.R_slice HO173.out; subst eo26) | ((with_reducible refine gate_callee (f := 20) rfl ?_); refine goesL_ (some 18) rfl rfl Try.func20 (by kernel_rfl) rfl #[.bool true, .slice Ao26 y171.length co26] rfl (by (try simp only [List.map_toArray, List.map_cons, List.map_nil]); first | done | rfl | (simp only [List.length_drop, List.length_take]; rfl)) ?_; (with_reducible refine (node_Of.calls k true (fun k_ => some k_ = (.slice Ao26 y171.length co26 : Value).ownBlock) _ _ y171 t174 t175 t178 t181 t184 _ ?side1 A2.out).mono ?_); (case side1 => exact Kd.R_V (Kd.R_tight rfl (Kd.R_types (HO173.out) BK166.out (by decide)))); rintro e w27 ⟨v176, v179, v182, rfl, ho0, ho1, ho2, hb⟩; refine ⟨_, rfl, ?_⟩; have n0_ := Aside0.mk (Kd.R_mono (Kd.R_told (Kd.R_told (Kd.R_old (by (with_reducible repeat (first | apply Kd.R_alloc | apply Kd.R_drewN | apply Kd.R_drew)); exact HO162.out) hb) (Kd.R_base ho0)) (Kd.R_base ho1)) (fun _ h_ => h_.1)); have n1_ := Aside0.mk (Kd.R_mono (Kd.R_told (Kd.R_told (Kd.R_old (by (with_reducible repeat (first | apply Kd.R_alloc | apply Kd.R_drewN | apply Kd.R_drew)); exact HO165.out) hb) (Kd.R_base ho0)) (Kd.R_base ho1)) (fun _ h_ => h_.1)); have n2_ := Aside0.mk (Kd.R_mono (Kd.R_told (Kd.R_told (Kd.R_old (by (with_reducible repeat (first | apply Kd.R_alloc | apply Kd.R_drewN | apply Kd.R_drew)); exact HO169.out) hb) (Kd.R_base ho0)) (Kd.R_base ho1)) (fun _ h_ => h_.1)); have n3_ := Aside0.mk (Kd.R_mono (Kd.R_told (Kd.R_told (Kd.R_old (by (with_reducible repeat (first | apply Kd.R_alloc | apply Kd.R_drewN | apply Kd.R_drew)); exact HO173.out) hb) (Kd.R_base ho0)) (Kd.R_base ho1)) (fun _ h_ => h_.1)); have n4_ := Aside0.mk (Kd.R_lower (Kd.R_new' (Kd.R_new' (Kd.R_new' (Kd.R_new' (Kd.R_mono (ok' := fun k_ => some k_ ≠ (v179 : Value).ownBlock) ho0 (fun _ hk_ => hk_.2)) (Kd.R_lt (by (with_reducible repeat (first | apply Kd.R_alloc | apply Kd.R_drewN | apply Kd.R_drew)); exact HO162.out))) (Kd.R_lt (by (with_reducible repeat (first | apply Kd.R_alloc | apply Kd.R_drewN | apply Kd.R_drew)); exact HO165.out))) (Kd.R_lt (by (with_reducible repeat (first | apply Kd.R_alloc | apply Kd.R_drewN | apply Kd.R_drew)); exact HO169.out))) (Kd.R_lt (by (with_reducible repeat (first | apply Kd.R_alloc | apply Kd.R_drewN | apply Kd.R_drew)); exact HO173.out))) (below_size (by repeat (first | (with_reducible first | exact HB.out | apply below_alloc | apply pw_below_drewN | apply below_drew1 | refine below_set ?_ GE166.out) | exact HB.out)))); have n5_ := Aside0.mk (Kd.R_lower (Kd.R_new' (Kd.R_new' (Kd.R_new' (Kd.R_new' (Kd.R_mono (ok' := fun k_ => some k_ ≠ (v176 : Value).ownBlock) ho1 (fun _ hk_ => hk_.2)) (Kd.R_lt (by (with_reducible repeat (first | apply Kd.R_alloc | apply Kd.R_drewN | apply Kd.R_drew)); exact HO162.out))) (Kd.R_lt (by (with_reducible repeat (first | apply Kd.R_alloc | apply Kd.R_drewN | apply Kd.R_drew)); exact HO165.out))) (Kd.R_lt (by (with_reducible repeat (first | apply Kd.R_alloc | apply Kd.R_drewN | apply Kd.R_drew)); exact HO169.out))) (Kd.R_lt (by (with_reducible repeat (first | apply Kd.R_alloc | apply Kd.R_drewN | apply Kd.R_drew)); exact HO173.out))) (below_size (by repeat (first | (with_reducible first | exact HB.out | apply below_alloc | apply pw_below_drewN | apply below_drew1 | refine below_set ?_ GE166.out) | exact HB.out)))); have n6_ := Aside0.mk (Kd.R_lower (Kd.R_mono (ok' := fun k_ => True) ho2 (fun _ hk_ => trivial)) (below_size (by repeat (first | (with_reducible first | exact HB.out | apply below_alloc | apply pw_below_drewN | apply below_drew1 | refine below_set ?_ GE166.out) | exact HB.out)))); have n7_ := Aside0.mk (blk_below (g := gb166) (o := .cells #[.bool true, .slice Ao20 y160.length co20, .slice Ao19 y163.length co19, .slice none 0 0] 25 (0, 0)) (by (with_reducible repeat (first | refine blk_drewN ?_ _ | refine blk_drew ?_ | refine blk_alloc ?_ _)); exact BK166.out) hb); have n8_ := Aside0.mk (below_step (by repeat (first | (with_reducible first | exact HB.out | apply below_alloc | apply pw_below_drewN | apply below_drew1 | refine below_set ?_ GE166.out) | exact HB.out)) hb); clear HO162; clear HO165; clear HO169; clear HO173; clear BK166; clear HB; have HO162 := n0_; have HO165 := n1_; have HO169 := n2_; have HO173 := n3_; have HO177 := n4_; have HO180 := n5_; have HO183 := n6_; have BK166 := n7_; have HB := n8_; clear n0_ n1_ n2_ n3_ n4_ n5_ n6_ n7_ n8_; (try clear hb); (try clear hb2); (try clear hk); (try clear hi); (try clear ho0); (try clear ho1); (try clear ho2)) | ((with_reducible refine gate_dst (N := 4) rfl ?_); refine box_event ?hg (N := 4) ?hd (cs := #[.bool false, .slice none 0 0, .slice none 0 0, .slice none 0 0]) (t := 25) ?hr ?_; (case hd => rfl); (case hg => rfl); (case hr => first | (go_simp; done) | (go_simp; rfl)); intro gb185 hg w28 hbox hb; have n0_ := Aside0.mk (Kd.R_below (by (with_reducible repeat (first | apply Kd.R_alloc | apply Kd.R_drewN | apply Kd.R_drew)); exact HO162.out) hb); have n1_ := Aside0.mk (Kd.R_below (by (with_reducible repeat (first | apply Kd.R_alloc | apply Kd.R_drewN | apply Kd.R_drew)); exact HO165.out) hb); have n2_ := Aside0.mk (Kd.R_below (by (with_reducible repeat (first | apply Kd.R_alloc | apply Kd.R_drewN | apply Kd.R_drew)); exact HO169.out) hb); have n3_ := Aside0.mk (Kd.R_below (by (with_reducible repeat (first | apply Kd.R_alloc | apply Kd.R_drewN | apply Kd.R_drew)); exact HO173.out) hb); have n4_ := Aside0.mk (Kd.R_below (by (with_reducible repeat (first | apply Kd.R_alloc | apply Kd.R_drewN | apply Kd.R_drew)); exact HO177.out) hb); have n5_ := Aside0.mk (Kd.R_below (by (with_reducible repeat (first | apply Kd.R_alloc | apply Kd.R_drewN | apply Kd.R_drew)); exact HO180.out) hb); have n6_ := Aside0.mk (Kd.R_below (by (with_reducible repeat (first | apply Kd.R_alloc | apply Kd.R_drewN | apply Kd.R_drew)); exact HO183.out) hb); have n7_ := Aside0.mk (blk_below (g := gb166) (o := .cells #[.bool true, .slice Ao20 y160.length co20, .slice Ao19 y163.length co19, .slice none 0 0] 25 (0, 0)) (by (with_reducible repeat (first | refine blk_drewN ?_ _ | refine blk_drew ?_ | refine blk_alloc ?_ _)); exact BK166.out) hb); have n8_ := Aside0.mk (below_step (by repeat (first | (with_reducible first | exact HB.out | apply below_alloc | apply pw_below_drewN | apply below_drew1 | refine below_set ?_ GE166.out) | exact HB.out)) hb); have n9_ := Aside0.mk (hbox); have n10_ := Aside0.mk ((by rw [hg]; exact (below_size (by repeat (first | (with_reducible first | exact HB.out | apply below_alloc | apply pw_below_drewN | apply below_drew1 | refine below_set ?_ GE166.out) | exact HB.out))) : w.heap.size ≤ gb185)); have n11_ := Aside0.mk ((by rw [hg]; exact (below_size (by repeat (first | (with_reducible first | exact HB.out | apply below_alloc | apply pw_below_drewN | apply below_drew1 | refine below_set ?_ GE166.out) | exact HB.out))) : w.heap.size ≤ gb185)); have n12_ := Aside0.mk ((by rw [hg]; exact Nat.ne_of_lt (blk_lt (g := gb166) (o := .cells #[.bool true, .slice Ao20 y160.length co20, .slice Ao19 y163.length co19, .slice none 0 0] 25 (0, 0)) (by (with_reducible repeat (first | refine blk_drewN ?_ _ | refine blk_drew ?_ | refine blk_alloc ?_ _)); exact BK166.out)) : gb166 ≠ gb185)); have n13_ := Aside0.mk ((by rw [hg]; exact Nat.ne_of_gt (blk_lt (g := gb166) (o := .cells #[.bool true, .slice Ao20 y160.length co20, .slice Ao19 y163.length co19, .slice none 0 0] 25 (0, 0)) (by (with_reducible repeat (first | refine blk_drewN ?_ _ | refine blk_drew ?_ | refine blk_alloc ?_ _)); exact BK166.out)) : gb185 ≠ gb166)); clear HO162; clear HO165; clear HO169; clear HO173; clear HO177; clear HO180; clear HO183; clear BK166; clear HB; have HO162 := n0_; have HO165 := n1_; have HO169 := n2_; have HO173 := n3_; have HO177 := n4_; have HO180 := n5_; have HO183 := n6_; have BK166 := n7_; have HB := n8_; have BK185 := n9_; have GW185 := n10_; have GE185 := n11_; have NB166_185 := n12_; have NB185_166 := n13_; clear n0_ n1_ n2_ n3_ n4_ n5_ n6_ n7_ n8_ n9_ n10_ n11_ n12_ n13_; clear hb hbox hg; have hnb29 := NB185_166.out; have hnc29 := NB166_185.out; have hcz30_0 : w28.cell? ⟨gb185, 0, none⟩ = some (.bool false) := (blk_cell BK185.out 0).trans rfl; have hcz30_1 : w28.cell? ⟨gb185, 1, none⟩ = some (.slice none 0 0) := (blk_cell BK185.out 1).trans rfl; have hcz30_2 : w28.cell? ⟨gb185, 2, none⟩ = some (.slice none 0 0) := (blk_cell BK185.out 2).trans rfl; have hcz30_3 : w28.cell? ⟨gb185, 3, none⟩ = some (.slice none 0 0) := (blk_cell BK185.out 3).trans rfl; have hfz30_0 := blk_frozen BK185.out 0; have hfz30_1 := blk_frozen BK185.out 1; have hfz30_2 := blk_frozen BK185.out 2; have hfz30_3 := blk_frozen BK185.out 3; obtain ⟨Ao31, co31, eo31⟩ := Kd.R_slice HO177.out; subst eo31; obtain ⟨Ao32, co32, eo32⟩ := Kd.R_slice HO180.out; subst eo32; obtain ⟨Ao33, co33, eo33⟩ := Kd.R_slice HO183.out; subst eo33; have hcz34_0 : w28.cell? ⟨gb166, 0, none⟩ = some (.bool true) := (blk_cell BK166.out 0).trans rfl; have hcz34_1 : w28.cell? ⟨gb166, 1, none⟩ = some (.slice Ao20 y160.length co20) := (blk_cell BK166.out 1).trans rfl; have hcz34_2 : w28.cell? ⟨gb166, 2, none⟩ = some (.slice Ao19 y163.length co19) := (blk_cell BK166.out 2).trans rfl; have hcz34_3 : w28.cell? ⟨gb166, 3, none⟩ = some (.slice none 0 0) := (blk_cell BK166.out 3).trans rfl; have hfz34_0 := blk_frozen BK166.out 0; have hfz34_1 := blk_frozen BK166.out 1; have hfz34_2 := blk_frozen BK166.out 2; have hfz34_3 := blk_frozen BK166.out 3) | ((with_reducible refine gate_callee (f := 24) rfl ?_); refine goesL_ (some 23) rfl rfl Try.func24 (by kernel_rfl) rfl #[.agg #[.bool true, .slice Ao20 y160.length co20, .slice Ao19 y163.length co19, .slice none 0 0], .string (⟨#[97, 97]⟩ : ByteArray)] rfl (by (try simp only [List.map_toArray, List.map_cons, List.map_nil]); first | done | rfl | (simp only [List.length_drop, List.length_take]; rfl)) ?_; (refine (node_Find.calls true _ _ y160 _ _ y163 _ _ ([] : List Int) (⟨#[97, 97]⟩ : ByteArray) t186 false _ ?side1 ?side2 ?side3 ?side4 ?side5 ?side6 A3.out).mono ?_); (case side1 => refine (Kd.R_reads' (e := 9) (base := w.heap.size) (ok := fun k_ => (((((True ∧ some k_ ≠ (.slice Ao19 y163.length co19 : Value).ownBlock) ∧ some k_ ≠ (v168 : Value).ownBlock) ∧ some k_ ≠ (.slice Ao26 y171.length co26 : Value).ownBlock) ∧ some k_ ≠ (.slice Ao31 t175.length co31 : Value).ownBlock) ∧ some k_ ≠ (.slice Ao32 t178.length co32 : Value).ownBlock)) (n := y160.length) (c := co20) ?_).2.2; exact (by (with_reducible repeat (first | apply Kd.R_alloc | apply Kd.R_drewN | apply Kd.R_drew)); exact (Kd.R_mono (Kd.R_far (p := ⟨gb185, 3, none⟩) (Kd.R_far (p := ⟨gb185, 2, none⟩) (Kd.R_far (p := ⟨gb185, 1, none⟩) (Kd.R_far (p := ⟨gb185, 0, none⟩) (Kd.R_types HO162.out BK185.out (by decide)) (fun _ hk => hk.2) (.bool t174)) (fun _ hk => hk.2) (.slice Ao31 t175.length co31)) (fun _ hk => hk.2) (.slice Ao32 t178.length co32)) (fun _ hk => hk.2) (.slice Ao33 t181.length co33)) (fun _ h_ => h_.1)))); (case side2 => exact (Kd.R_reads' HO162.out).2.1); (case side3 => refine (Kd.R_reads' (e := 9) (base := w.heap.size) (ok := fun k_ => (((((True ∧ some k_ ≠ (.slice Ao20 y160.length co20 : Value).ownBlock) ∧ some k_ ≠ (v168 : Value).ownBlock) ∧ some k_ ≠ (.slice Ao26 y171.length co26 : Value).ownBlock) ∧ some k_ ≠ (.slice Ao31 t175.length co31 : Value).ownBlock) ∧ some k_ ≠ (.slice Ao32 t178.length co32 : Value).ownBlock)) (n := y163.length) (c := co19) ?_).2.2; exact (by (with_reducible repeat (first | apply Kd.R_alloc | apply Kd.R_drewN | apply Kd.R_drew)); exact (Kd.R_mono (Kd.R_far (p := ⟨gb185, 3, none⟩) (Kd.R_far (p := ⟨gb185, 2, none⟩) (Kd.R_far (p := ⟨gb185, 1, none⟩) (Kd.R_far (p := ⟨gb185, 0, none⟩) (Kd.R_types HO165.out BK185.out (by decide)) (fun _ hk => hk.2) (.bool t174)) (fun _ hk => hk.2) (.slice Ao31 t175.length co31)) (fun _ hk => hk.2) (.slice Ao32 t178.length co32)) (fun _ hk => hk.2) (.slice Ao33 t181.length co33)) (fun _ h_ => h_.1)))); (case side4 => exact (Kd.R_reads' HO165.out).2.1); (case side5 => exact Kd.C_nil _ _); (case side6 => exact Nat.le_refl _); rintro e w35 ⟨rfl, hb⟩; refine ⟨_, rfl, ?_⟩; have n0_ := Aside0.mk (Kd.R_below (by (with_reducible repeat (first | apply Kd.R_alloc | apply Kd.R_drewN | apply Kd.R_drew)); exact (Kd.R_mono (Kd.R_far (p := ⟨gb185, 3, none⟩) (Kd.R_far (p := ⟨gb185, 2, none⟩) (Kd.R_far (p := ⟨gb185, 1, none⟩) (Kd.R_far (p := ⟨gb185, 0, none⟩) (Kd.R_types HO162.out BK185.out (by decide)) (fun _ hk => hk.2) (.bool t174)) (fun _ hk => hk.2) (.slice Ao31 t175.length co31)) (fun _ hk => hk.2) (.slice Ao32 t178.length co32)) (fun _ hk => hk.2) (.slice Ao33 t181.length co33)) (fun _ h_ => h_.1))) hb); have n1_ := Aside0.mk (Kd.R_below (by (with_reducible repeat (first | apply Kd.R_alloc | apply Kd.R_drewN | apply Kd.R_drew)); exact (Kd.R_mono (Kd.R_far (p := ⟨gb185, 3, none⟩) (Kd.R_far (p := ⟨gb185, 2, none⟩) (Kd.R_far (p := ⟨gb185, 1, none⟩) (Kd.R_far (p := ⟨gb185, 0, none⟩) (Kd.R_types HO165.out BK185.out (by decide)) (fun _ hk => hk.2) (.bool t174)) (fun _ hk => hk.2) (.slice Ao31 t175.length co31)) (fun _ hk => hk.2) (.slice Ao32 t178.length co32)) (fun _ hk => hk.2) (.slice Ao33 t181.length co33)) (fun _ h_ => h_.1))) hb); have n2_ := Aside0.mk (Kd.R_below (by (with_reducible repeat (first | apply Kd.R_alloc | apply Kd.R_drewN | apply Kd.R_drew)); exact (Kd.R_mono (Kd.R_far (p := ⟨gb185, 3, none⟩) (Kd.R_far (p := ⟨gb185, 2, none⟩) (Kd.R_far (p := ⟨gb185, 1, none⟩) (Kd.R_far (p := ⟨gb185, 0, none⟩) (Kd.R_types HO169.out BK185.out (by decide)) (fun _ hk => hk.2) (.bool t174)) (fun _ hk => hk.2) (.slice Ao31 t175.length co31)) (fun _ hk => hk.2) (.slice Ao32 t178.length co32)) (fun _ hk => hk.2) (.slice Ao33 t181.length co33)) (fun _ h_ => h_.1))) hb); have n3_ := Aside0.mk (Kd.R_below (by (with_reducible repeat (first | apply Kd.R_alloc | apply Kd.R_drewN | apply Kd.R_drew)); exact (Kd.R_mono (Kd.R_far (p := ⟨gb185, 3, none⟩) (Kd.R_far (p := ⟨gb185, 2, none⟩) (Kd.R_far (p := ⟨gb185, 1, none⟩) (Kd.R_far (p := ⟨gb185, 0, none⟩) (Kd.R_types HO173.out BK185.out (by decide)) (fun _ hk => hk.2) (.bool t174)) (fun _ hk => hk.2) (.slice Ao31 t175.length co31)) (fun _ hk => hk.2) (.slice Ao32 t178.length co32)) (fun _ hk => hk.2) (.slice Ao33 t181.length co33)) (fun _ h_ => h_.1))) hb); have n4_ := Aside0.mk (Kd.R_below (by (with_reducible repeat (first | apply Kd.R_alloc | apply Kd.R_drewN | apply Kd.R_drew)); exact (Kd.R_mono (Kd.R_far (p := ⟨gb185, 3, none⟩) (Kd.R_far (p := ⟨gb185, 2, none⟩) (Kd.R_far (p := ⟨gb185, 1, none⟩) (Kd.R_far (p := ⟨gb185, 0, none⟩) (Kd.R_types HO177.out BK185.out (by decide)) (fun _ hk => hk.2) (.bool t174)) (fun _ hk => hk.2) (.slice Ao31 t175.length co31)) (fun _ hk => hk.2) (.slice Ao32 t178.length co32)) (fun _ hk => hk.2) (.slice Ao33 t181.length co33)) (fun _ h_ => h_.1))) hb); have n5_ := Aside0.mk (Kd.R_below (by (with_reducible repeat (first | apply Kd.R_alloc | apply Kd.R_drewN | apply Kd.R_drew)); exact (Kd.R_mono (Kd.R_far (p := ⟨gb185, 3, none⟩) (Kd.R_far (p := ⟨gb185, 2, none⟩) (Kd.R_far (p := ⟨gb185, 1, none⟩) (Kd.R_far (p := ⟨gb185, 0, none⟩) (Kd.R_types HO180.out BK185.out (by decide)) (fun _ hk => hk.2) (.bool t174)) (fun _ hk => hk.2) (.slice Ao31 t175.length co31)) (fun _ hk => hk.2) (.slice Ao32 t178.length co32)) (fun _ hk => hk.2) (.slice Ao33 t181.length co33)) (fun _ h_ => h_.1))) hb); have n6_ := Aside0.mk (Kd.R_below (by (with_reducible repeat (first | apply Kd.R_alloc | apply Kd.R_drewN | apply Kd.R_drew)); exact (Kd.R_mono (Kd.R_far (p := ⟨gb185, 3, none⟩) (Kd.R_far (p := ⟨gb185, 2, none⟩) (Kd.R_far (p := ⟨gb185, 1, none⟩) (Kd.R_far (p := ⟨gb185, 0, none⟩) (Kd.R_types HO183.out BK185.out (by decide)) (fun _ hk => hk.2) (.bool t174)) (fun _ hk => hk.2) (.slice Ao31 t175.length co31)) (fun _ hk => hk.2) (.slice Ao32 t178.length co32)) (fun _ hk => hk.2) (.slice Ao33 t181.length co33)) (fun _ h_ => h_.1))) hb); have n7_ := Aside0.mk (blk_below (g := gb166) (o := .cells #[.bool true, .slice Ao20 y160.length co20, .slice Ao19 y163.length co19, .slice none 0 0] 25 (0, 0)) (by (with_reducible repeat (first | refine blk_drewN ?_ _ | refine blk_drew ?_ | refine blk_alloc ?_ _)); refine blk_far ?_ NB166_185.out _; (with_reducible repeat (first | refine blk_drewN ?_ _ | refine blk_drew ?_ | refine blk_alloc ?_ _)); refine blk_far ?_ NB166_185.out _; (with_reducible repeat (first | refine blk_drewN ?_ _ | refine blk_drew ?_ | refine blk_alloc ?_ _)); refine blk_far ?_ NB166_185.out _; (with_reducible repeat (first | refine blk_drewN ?_ _ | refine blk_drew ?_ | refine blk_alloc ?_ _)); refine blk_far ?_ NB166_185.out _; (with_reducible repeat (first | refine blk_drewN ?_ _ | refine blk_drew ?_ | refine blk_alloc ?_ _)); exact BK166.out) hb); have n8_ := Aside0.mk (blk_below (g := gb185) (o := .cells #[.bool t174, .slice Ao31 t175.length co31, .slice Ao32 t178.length co32, .slice Ao33 t181.length co33] 25 (0, 0)) (by (with_reducible repeat (first | refine blk_drewN ?_ _ | refine blk_drew ?_ | refine blk_alloc ?_ _)); refine blk_put (cs := #[.bool t174, .slice Ao31 t175.length co31, .slice Ao32 t178.length co32, .slice none 0 0]) ?_ 3 _ rfl; (with_reducible repeat (first | refine blk_drewN ?_ _ | refine blk_drew ?_ | refine blk_alloc ?_ _)); refine blk_put (cs := #[.bool t174, .slice Ao31 t175.length co31, .slice none 0 0, .slice none 0 0]) ?_ 2 _ rfl; (with_reducible repeat (first | refine blk_drewN ?_ _ | refine blk_drew ?_ | refine blk_alloc ?_ _)); refine blk_put (cs := #[.bool t174, .slice none 0 0, .slice none 0 0, .slice none 0 0]) ?_ 1 _ rfl; (with_reducible repeat (first | refine blk_drewN ?_ _ | refine blk_drew ?_ | refine blk_alloc ?_ _)); refine blk_put (cs := #[.bool false, .slice none 0 0, .slice none 0 0, .slice none 0 0]) ?_ 0 _ rfl; (with_reducible repeat (first | refine blk_drewN ?_ _ | refine blk_drew ?_ | refine blk_alloc ?_ _)); exact BK185.out) hb); have n9_ := Aside0.mk (below_step (by repeat (first | (with_reducible first | exact HB.out | apply below_alloc | apply pw_below_drewN | apply below_drew1 | refine below_set ?_ GE166.out | refine below_set ?_ GE185.out) | exact HB.out)) hb); clear HO162; clear HO165; clear HO169; clear HO173; clear HO177; clear HO180; clear HO183; clear BK166; clear BK185; clear HB; have HO162 := n0_; have HO165 := n1_; have HO169 := n2_; have HO173 := n3_; have HO177 := n4_; have HO180 := n5_; have HO183 := n6_; have BK166 := n7_; have BK185 := n8_; have HB := n9_; clear n0_ n1_ n2_ n3_ n4_ n5_ n6_ n7_ n8_ n9_; (try clear hb); (try clear hb2); (try clear hk); (try clear hi)) | ((with_reducible refine gate_dst (N := 27) rfl ?_); refine Kd.R_lit Kd.string _ 9 ?hg (N := 27) ?hd (xs := ([(⟨#[1, 97, 120]⟩ : ByteArray), (⟨#[1, 98]⟩ : ByteArray)] : List ByteArray)) (inner := [.string (⟨#[1, 97, 120]⟩ : ByteArray), .string (⟨#[1, 98]⟩ : ByteArray)]) (ok := fun _ => True) (okp := fun _ => True) ?hr ?hp (fun _ hk => hk) trivial (Below.refl _ _) (Nat.le_refl _) (by simp) ?_; (case hd => rfl); (case hg => rfl); (case hr => first | (go_simp; done) | (go_simp; rfl)); (case hp => exact (Reps.one (show Kd.M Kd.string _ _ _ (⟨#[1, 97, 120]⟩ : ByteArray) [.string (⟨#[1, 97, 120]⟩ : ByteArray)] from rfl) (Reps.one (show Kd.M Kd.string _ _ _ (⟨#[1, 98]⟩ : ByteArray) [.string (⟨#[1, 98]⟩ : ByteArray)] from rfl) (Reps.none _ _)))); intro v189 w36 ho37 hb hg_ hnew_; clear hg_ hnew_; (first | rw [← Ny188.out] at ho37 | (simp only [Int.reduceToNat] at ho37; rw [← Ny188.out] at ho37)); have n0_ := Aside0.mk (Kd.R_elder' (by (with_reducible repeat (first | apply Kd.R_alloc | apply Kd.R_drewN | apply Kd.R_drew)); exact HO162.out) (Kd.R_base ho37) hb); have n1_ := Aside0.mk (Kd.R_elder' (by (with_reducible repeat (first | apply Kd.R_alloc | apply Kd.R_drewN | apply Kd.R_drew)); exact HO165.out) (Kd.R_base ho37) hb); have n2_ := Aside0.mk (Kd.R_elder' (by (with_reducible repeat (first | apply Kd.R_alloc | apply Kd.R_drewN | apply Kd.R_drew)); exact HO169.out) (Kd.R_base ho37) hb); have n3_ := Aside0.mk (Kd.R_elder' (by (with_reducible repeat (first | apply Kd.R_alloc | apply Kd.R_drewN | apply Kd.R_drew)); exact HO173.out) (Kd.R_base ho37) hb); have n4_ := Aside0.mk (Kd.R_elder' (by (with_reducible repeat (first | apply Kd.R_alloc | apply Kd.R_drewN | apply Kd.R_drew)); exact HO177.out) (Kd.R_base ho37) hb); have n5_ := Aside0.mk (Kd.R_elder' (by (with_reducible repeat (first | apply Kd.R_alloc | apply Kd.R_drewN | apply Kd.R_drew)); exact HO180.out) (Kd.R_base ho37) hb); have n6_ := Aside0.mk (Kd.R_below (by (with_reducible repeat (first | apply Kd.R_alloc | apply Kd.R_drewN | apply Kd.R_drew)); exact HO183.out) hb); have n7_ := Aside0.mk (Kd.R_lower (Kd.R_new' (Kd.R_new' (Kd.R_new' (Kd.R_new' (Kd.R_new' (Kd.R_new' ho37 (Kd.R_lt (by (with_reducible repeat (first | apply Kd.R_alloc | apply Kd.R_drewN | apply Kd.R_drew)); exact HO162.out))) (Kd.R_lt (by (with_reducible repeat (first | apply Kd.R_alloc | apply Kd.R_drewN | apply Kd.R_drew)); exact HO165.out))) (Kd.R_lt (by (with_reducible repeat (first | apply Kd.R_alloc | apply Kd.R_drewN | apply Kd.R_drew)); exact HO169.out))) (Kd.R_lt (by (with_reducible repeat (first | apply Kd.R_alloc | apply Kd.R_drewN | apply Kd.R_drew)); exact HO173.out))) (Kd.R_lt (by (with_reducible repeat (first | apply Kd.R_alloc | apply Kd.R_drewN | apply Kd.R_drew)); exact HO177.out))) (Kd.R_lt (by (with_reducible repeat (first | apply Kd.R_alloc | apply Kd.R_drewN | apply Kd.R_drew)); exact HO180.out))) (below_size (by repeat (first | (with_reducible first | exact HB.out | apply below_alloc | apply pw_below_drewN | apply below_drew1 | refine below_set ?_ GE166.out | refine below_set ?_ GE185.out) | exact HB.out)))); have n8_ := Aside0.mk (blk_below (g := gb166) (o := .cells #[.bool true, .slice Ao20 y160.length co20, .slice Ao19 y163.length co19, .slice none 0 0] 25 (0, 0)) (by (with_reducible repeat (first | refine blk_drewN ?_ _ | refine blk_drew ?_ | refine blk_alloc ?_ _)); exact BK166.out) hb); have n9_ := Aside0.mk (blk_below (g := gb185) (o := .cells #[.bool t174, .slice Ao31 t175.length co31, .slice Ao32 t178.length co32, .slice Ao33 t181.length co33] 25 (0, 0)) (by (with_reducible repeat (first | refine blk_drewN ?_ _ | refine blk_drew ?_ | refine blk_alloc ?_ _)); exact BK185.out) hb); have n10_ := Aside0.mk (below_step (by repeat (first | (with_reducible first | exact HB.out | apply below_alloc | apply pw_below_drewN | apply below_drew1 | refine below_set ?_ GE166.out | refine below_set ?_ GE185.out) | exact HB.out)) hb); clear HO162; clear HO165; clear HO169; clear HO173; clear HO177; clear HO180; clear HO183; clear BK166; clear BK185; clear HB; have HO162 := n0_; have HO165 := n1_; have HO169 := n2_; have HO173 := n3_; have HO177 := n4_; have HO180 := n5_; have HO183 := n6_; have HO190 := n7_; have BK166 := n8_; have BK185 := n9_; have HB := n10_; clear n0_ n1_ n2_ n3_ n4_ n5_ n6_ n7_ n8_ n9_ n10_; clear hb ho37; obtain ⟨Ao38, co38, eo38⟩ := Kd.R_slice HO169.out; subst eo38; obtain ⟨Ao39, co39, eo39⟩ := Kd.R_slice HO190.out; subst eo39) | ((with_reducible refine gate_callee (f := 21) rfl ?_); refine goesL_ (some 28) rfl rfl Try.func21 (by kernel_rfl) rfl #[.slice Ao38 t167.length co38, .slice Ao39 y188.length co39] rfl (by (try simp only [List.map_toArray, List.map_cons, List.map_nil]); first | done | rfl | (simp only [List.length_drop, List.length_take]; rfl)) ?_; (with_reducible refine (lunetteref01_Same.calls k _ _ t167 _ _ y188 true _ ?side1 ?side2 ?side3 ?side4 A4.out).mono ?_); (case side1 => repeat (first | exact (Kd.R_reads' HO169.out).2.2 | (with_reducible refine Kd.C_alloc ?_ _) | (with_reducible refine Kd.C_drewN ?_ _) | (with_reducible refine Kd.C_drew ?_))); (case side2 => exact (Kd.R_reads' HO169.out).2.1); (case side3 => repeat (first | exact (Kd.R_reads' HO190.out).2.2 | (with_reducible refine Kd.C_alloc ?_ _) | (with_reducible refine Kd.C_drewN ?_ _) | (with_reducible refine Kd.C_drew ?_))); (case side4 => exact (Kd.R_reads' HO190.out).2.1); rintro e w' ⟨rfl, ⟨nd, rfl⟩⟩; refine ⟨_, rfl, ?_⟩; have hcz40_0 : w36.cell? ⟨gb166, 0, none⟩ = some (.bool true) := (blk_cell BK166.out 0).trans rfl; have hcz40_1 : w36.cell? ⟨gb166, 1, none⟩ = some (.slice Ao20 y160.length co20) := (blk_cell BK166.out 1).trans rfl; have hcz40_2 : w36.cell? ⟨gb166, 2, none⟩ = some (.slice Ao19 y163.length co19) := (blk_cell BK166.out 2).trans rfl; have hcz40_3 : w36.cell? ⟨gb166, 3, none⟩ = some (.slice none 0 0) := (blk_cell BK166.out 3).trans rfl; have hfz40_0 := blk_frozen BK166.out 0; have hfz40_1 := blk_frozen BK166.out 1; have hfz40_2 := blk_frozen BK166.out 2; have hfz40_3 := blk_frozen BK166.out 3; have hcz41_0 : w36.cell? ⟨gb185, 0, none⟩ = some (.bool t174) := (blk_cell BK185.out 0).trans rfl; have hcz41_1 : w36.cell? ⟨gb185, 1, none⟩ = some (.slice Ao31 t175.length co31) := (blk_cell BK185.out 1).trans rfl; have hcz41_2 : w36.cell? ⟨gb185, 2, none⟩ = some (.slice Ao32 t178.length co32) := (blk_cell BK185.out 2).trans rfl; have hcz41_3 : w36.cell? ⟨gb185, 3, none⟩ = some (.slice Ao33 t181.length co33) := (blk_cell BK185.out 3).trans rfl; have hfz41_0 := blk_frozen BK185.out 0; have hfz41_1 := blk_frozen BK185.out 1; have hfz41_2 := blk_frozen BK185.out 2; have hfz41_3 := blk_frozen BK185.out 3) | (go_at_call 23; (refine (lunetteref05_Same.calls k true _ _ y160 _ _ y163 _ _ ([] : List Int) t174 _ _ t175 _ _ t178 _ _ t181 true _ ?side1 ?side2 ?side3 ?side4 ?side5 ?side6 ?side7 ?side8 ?side9 ?side10 ?side11 ?side12 A7.out).mono ?_); (case side1 => repeat (first | exact (Kd.R_reads' HO162.out).2.2 | (with_reducible refine Kd.C_alloc ?_ _) | (with_reducible refine Kd.C_drewN ?_ _) | (with_reducible refine Kd.C_drew ?_))); (case side2 => exact (Kd.R_reads' HO162.out).2.1); (case side3 => repeat (first | exact (Kd.R_reads' HO165.out).2.2 | (with_reducible refine Kd.C_alloc ?_ _) | (with_reducible refine Kd.C_drewN ?_ _) | (with_reducible refine Kd.C_drew ?_))); (case side4 => exact (Kd.R_reads' HO165.out).2.1); (case side5 => exact Kd.C_nil _ _); (case side6 => exact Nat.le_refl _); (case side7 => repeat (first | exact (Kd.R_reads' HO177.out).2.2 | (with_reducible refine Kd.C_alloc ?_ _) | (with_reducible refine Kd.C_drewN ?_ _) | (with_reducible refine Kd.C_drew ?_))); (case side8 => exact (Kd.R_reads' HO177.out).2.1); (case side9 => repeat (first | exact (Kd.R_reads' HO180.out).2.2 | (with_reducible refine Kd.C_alloc ?_ _) | (with_reducible refine Kd.C_drewN ?_ _) | (with_reducible refine Kd.C_drew ?_))); (case side10 => exact (Kd.R_reads' HO180.out).2.1); (case side11 => repeat (first | exact (Kd.R_reads' HO183.out).2.2 | (with_reducible refine Kd.C_alloc ?_ _) | (with_reducible refine Kd.C_drewN ?_ _) | (with_reducible refine Kd.C_drew ?_))); (case side12 => exact (Kd.R_reads' HO183.out).2.1); rintro e w42 ⟨rfl, hb⟩; have n0_ := Aside0.mk (Kd.R_below (by (with_reducible repeat (first | apply Kd.R_alloc | apply Kd.R_drewN | apply Kd.R_drew)); exact HO162.out) hb); have n1_ := Aside0.mk (Kd.R_below (by (with_reducible repeat (first | apply Kd.R_alloc | apply Kd.R_drewN | apply Kd.R_drew)); exact HO165.out) hb); have n2_ := Aside0.mk (Kd.R_below (by (with_reducible repeat (first | apply Kd.R_alloc | apply Kd.R_drewN | apply Kd.R_drew)); exact HO169.out) hb); have n3_ := Aside0.mk (Kd.R_below (by (with_reducible repeat (first | apply Kd.R_alloc | apply Kd.R_drewN | apply Kd.R_drew)); exact HO173.out) hb); have n4_ := Aside0.mk (Kd.R_below (by (with_reducible repeat (first | apply Kd.R_alloc | apply Kd.R_drewN | apply Kd.R_drew)); exact HO177.out) hb); have n5_ := Aside0.mk (Kd.R_below (by (with_reducible repeat (first | apply Kd.R_alloc | apply Kd.R_drewN | apply Kd.R_drew)); exact HO180.out) hb); have n6_ := Aside0.mk (Kd.R_below (by (with_reducible repeat (first | apply Kd.R_alloc | apply Kd.R_drewN | apply Kd.R_drew)); exact HO183.out) hb); have n7_ := Aside0.mk (Kd.R_below (by (with_reducible repeat (first | apply Kd.R_alloc | apply Kd.R_drewN | apply Kd.R_drew)); exact HO190.out) hb); have n8_ := Aside0.mk (blk_below (g := gb166) (o := .cells #[.bool true, .slice Ao20 y160.length co20, .slice Ao19 y163.length co19, .slice none 0 0] 25 (0, 0)) (by (with_reducible repeat (first | refine blk_drewN ?_ _ | refine blk_drew ?_ | refine blk_alloc ?_ _)); exact BK166.out) hb); have n9_ := Aside0.mk (blk_below (g := gb185) (o := .cells #[.bool t174, .slice Ao31 t175.length co31, .slice Ao32 t178.length co32, .slice Ao33 t181.length co33] 25 (0, 0)) (by (with_reducible repeat (first | refine blk_drewN ?_ _ | refine blk_drew ?_ | refine blk_alloc ?_ _)); exact BK185.out) hb); have n10_ := Aside0.mk (below_step (by repeat (first | (with_reducible first | exact HB.out | apply below_alloc | apply pw_below_drewN | apply below_drew1 | refine below_set ?_ GE166.out | refine below_set ?_ GE185.out) | exact HB.out)) hb); clear HO162; clear HO165; clear HO169; clear HO173; clear HO177; clear HO180; clear HO183; clear HO190; clear BK166; clear BK185; clear HB; have HO162 := n0_; have HO165 := n1_; have HO169 := n2_; have HO173 := n3_; have HO177 := n4_; have HO180 := n5_; have HO183 := n6_; have HO190 := n7_; have BK166 := n8_; have BK185 := n9_; have HB := n10_; clear n0_ n1_ n2_ n3_ n4_ n5_ n6_ n7_ n8_ n9_ n10_; (try clear hb); (try clear hb2); (try clear hk); (try clear hi); have hcz43_0 : w42.cell? ⟨gb166, 0, none⟩ = some (.bool true) := (blk_cell BK166.out 0).trans rfl; have hcz43_1 : w42.cell? ⟨gb166, 1, none⟩ = some (.slice Ao20 y160.length co20) := (blk_cell BK166.out 1).trans rfl; have hcz43_2 : w42.cell? ⟨gb166, 2, none⟩ = some (.slice Ao19 y163.length co19) := (blk_cell BK166.out 2).trans rfl; have hcz43_3 : w42.cell? ⟨gb166, 3, none⟩ = some (.slice none 0 0) := (blk_cell BK166.out 3).trans rfl; have hfz43_0 := blk_frozen BK166.out 0; have hfz43_1 := blk_frozen BK166.out 1; have hfz43_2 := blk_frozen BK166.out 2; have hfz43_3 := blk_frozen BK166.out 3) | (go_at_call 18; (refine (node_Room.calls k true _ _ y160 _ _ y163 _ _ ([] : List Int) t193 _ ?side1 ?side2 ?side3 ?side4 ?side5 ?side6 A12.out).mono ?_); (case side1 => repeat (first | exact (Kd.R_reads' HO162.out).2.2 | (with_reducible refine Kd.C_alloc ?_ _) | (with_reducible refine Kd.C_drewN ?_ _) | (with_reducible refine Kd.C_drew ?_))); (case side2 => exact (Kd.R_reads' HO162.out).2.1); (case side3 => repeat (first | exact (Kd.R_reads' HO165.out).2.2 | (with_reducible refine Kd.C_alloc ?_ _) | (with_reducible refine Kd.C_drewN ?_ _) | (with_reducible refine Kd.C_drew ?_))); (case side4 => exact (Kd.R_reads' HO165.out).2.1); (case side5 => exact Kd.C_nil _ _); (case side6 => exact Nat.le_refl _); rintro e w44 ⟨rfl, hb⟩; have n0_ := Aside0.mk (Kd.R_below (by (with_reducible repeat (first | apply Kd.R_alloc | apply Kd.R_drewN | apply Kd.R_drew)); exact HO162.out) hb); have n1_ := Aside0.mk (Kd.R_below (by (with_reducible repeat (first | apply Kd.R_alloc | apply Kd.R_drewN | apply Kd.R_drew)); exact HO165.out) hb); have n2_ := Aside0.mk (Kd.R_below (by (with_reducible repeat (first | apply Kd.R_alloc | apply Kd.R_drewN | apply Kd.R_drew)); exact HO169.out) hb); have n3_ := Aside0.mk (Kd.R_below (by (with_reducible repeat (first | apply Kd.R_alloc | apply Kd.R_drewN | apply Kd.R_drew)); exact HO173.out) hb); have n4_ := Aside0.mk (Kd.R_below (by (with_reducible repeat (first | apply Kd.R_alloc | apply Kd.R_drewN | apply Kd.R_drew)); exact HO177.out) hb); have n5_ := Aside0.mk (Kd.R_below (by (with_reducible repeat (first | apply Kd.R_alloc | apply Kd.R_drewN | apply Kd.R_drew)); exact HO180.out) hb); have n6_ := Aside0.mk (Kd.R_below (by (with_reducible repeat (first | apply Kd.R_alloc | apply Kd.R_drewN | apply Kd.R_drew)); exact HO183.out) hb); have n7_ := Aside0.mk (Kd.R_below (by (with_reducible repeat (first | apply Kd.R_alloc | apply Kd.R_drewN | apply Kd.R_drew)); exact HO190.out) hb); have n8_ := Aside0.mk (blk_below (g := gb166) (o := .cells #[.bool true, .slice Ao20 y160.length co20, .slice Ao19 y163.length co19, .slice none 0 0] 25 (0, 0)) (by (with_reducible repeat (first | refine blk_drewN ?_ _ | refine blk_drew ?_ | refine blk_alloc ?_ _)); exact BK166.out) hb); have n9_ := Aside0.mk (blk_below (g := gb185) (o := .cells #[.bool t174, .slice Ao31 t175.length co31, .slice Ao32 t178.length co32, .slice Ao33 t181.length co33] 25 (0, 0)) (by (with_reducible repeat (first | refine blk_drewN ?_ _ | refine blk_drew ?_ | refine blk_alloc ?_ _)); exact BK185.out) hb); have n10_ := Aside0.mk (below_step (by repeat (first | (with_reducible first | exact HB.out | apply below_alloc | apply pw_below_drewN | apply below_drew1 | refine below_set ?_ GE166.out | refine below_set ?_ GE185.out) | exact HB.out)) hb); clear HO162; clear HO165; clear HO169; clear HO173; clear HO177; clear HO180; clear HO183; clear HO190; clear BK166; clear BK185; clear HB; have HO162 := n0_; have HO165 := n1_; have HO169 := n2_; have HO173 := n3_; have HO177 := n4_; have HO180 := n5_; have HO183 := n6_; have HO190 := n7_; have BK166 := n8_; have BK185 := n9_; have HB := n10_; clear n0_ n1_ n2_ n3_ n4_ n5_ n6_ n7_ n8_ n9_ n10_; (try clear hb); (try clear hb2); (try clear hk); (try clear hi); have hcz45_0 : w44.cell? ⟨gb166, 0, none⟩ = some (.bool true) := (blk_cell BK166.out 0).trans rfl; have hcz45_1 : w44.cell? ⟨gb166, 1, none⟩ = some (.slice Ao20 y160.length co20) := (blk_cell BK166.out 1).trans rfl; have hcz45_2 : w44.cell? ⟨gb166, 2, none⟩ = some (.slice Ao19 y163.length co19) := (blk_cell BK166.out 2).trans rfl; have hcz45_3 : w44.cell? ⟨gb166, 3, none⟩ = some (.slice none 0 0) := (blk_cell BK166.out 3).trans rfl; have hfz45_0 := blk_frozen BK166.out 0; have hfz45_1 := blk_frozen BK166.out 1; have hfz45_2 := blk_frozen BK166.out 2; have hfz45_3 := blk_frozen BK166.out 3) | (go_at_call 17; (refine (node_Check.calls true _ _ y160 _ _ y163 _ _ ([] : List Int) t194 _ ?side1 ?side2 ?side3 ?side4 ?side5 ?side6 A14.out).mono ?_); (case side1 => repeat (first | exact (Kd.R_reads' HO162.out).2.2 | (with_reducible refine Kd.C_alloc ?_ _) | (with_reducible refine Kd.C_drewN ?_ _) | (with_reducible refine Kd.C_drew ?_))); (case side2 => exact (Kd.R_reads' HO162.out).2.1); (case side3 => repeat (first | exact (Kd.R_reads' HO165.out).2.2 | (with_reducible refine Kd.C_alloc ?_ _) | (with_reducible refine Kd.C_drewN ?_ _) | (with_reducible refine Kd.C_drew ?_))); (case side4 => exact (Kd.R_reads' HO165.out).2.1); (case side5 => exact Kd.C_nil _ _); (case side6 => exact Nat.le_refl _); rintro e w46 ⟨rfl, hb⟩; have n0_ := Aside0.mk (Kd.R_below (by (with_reducible repeat (first | apply Kd.R_alloc | apply Kd.R_drewN | apply Kd.R_drew)); exact HO162.out) hb); have n1_ := Aside0.mk (Kd.R_below (by (with_reducible repeat (first | apply Kd.R_alloc | apply Kd.R_drewN | apply Kd.R_drew)); exact HO165.out) hb); have n2_ := Aside0.mk (Kd.R_below (by (with_reducible repeat (first | apply Kd.R_alloc | apply Kd.R_drewN | apply Kd.R_drew)); exact HO169.out) hb); have n3_ := Aside0.mk (Kd.R_below (by (with_reducible repeat (first | apply Kd.R_alloc | apply Kd.R_drewN | apply Kd.R_drew)); exact HO173.out) hb); have n4_ := Aside0.mk (Kd.R_below (by (with_reducible repeat (first | apply Kd.R_alloc | apply Kd.R_drewN | apply Kd.R_drew)); exact HO177.out) hb); have n5_ := Aside0.mk (Kd.R_below (by (with_reducible repeat (first | apply Kd.R_alloc | apply Kd.R_drewN | apply Kd.R_drew)); exact HO180.out) hb); have n6_ := Aside0.mk (Kd.R_below (by (with_reducible repeat (first | apply Kd.R_alloc | apply Kd.R_drewN | apply Kd.R_drew)); exact HO183.out) hb); have n7_ := Aside0.mk (Kd.R_below (by (with_reducible repeat (first | apply Kd.R_alloc | apply Kd.R_drewN | apply Kd.R_drew)); exact HO190.out) hb); have n8_ := Aside0.mk (blk_below (g := gb166) (o := .cells #[.bool true, .slice Ao20 y160.length co20, .slice Ao19 y163.length co19, .slice none 0 0] 25 (0, 0)) (by (with_reducible repeat (first | refine blk_drewN ?_ _ | refine blk_drew ?_ | refine blk_alloc ?_ _)); exact BK166.out) hb); have n9_ := Aside0.mk (blk_below (g := gb185) (o := .cells #[.bool t174, .slice Ao31 t175.length co31, .slice Ao32 t178.length co32, .slice Ao33 t181.length co33] 25 (0, 0)) (by (with_reducible repeat (first | refine blk_drewN ?_ _ | refine blk_drew ?_ | refine blk_alloc ?_ _)); exact BK185.out) hb); have n10_ := Aside0.mk (below_step (by repeat (first | (with_reducible first | exact HB.out | apply below_alloc | apply pw_below_drewN | apply below_drew1 | refine below_set ?_ GE166.out | refine below_set ?_ GE185.out) | exact HB.out)) hb); clear HO162; clear HO165; clear HO169; clear HO173; clear HO177; clear HO180; clear HO183; clear HO190; clear BK166; clear BK185; clear HB; have HO162 := n0_; have HO165 := n1_; have HO169 := n2_; have HO173 := n3_; have HO177 := n4_; have HO180 := n5_; have HO183 := n6_; have HO190 := n7_; have BK166 := n8_; have BK185 := n9_; have HB := n10_; clear n0_ n1_ n2_ n3_ n4_ n5_ n6_ n7_ n8_ n9_ n10_; (try clear hb); (try clear hb2); (try clear hk); (try clear hi)))
                go_ret
                exact ⟨by first | rfl | (simp [errW_none, errW_some] <;> rfl) | (simp [*, errW_none, errW_some] <;> rfl), by repeat (first | (with_reducible first | exact HB.out | apply below_alloc | apply pw_below_drewN | apply below_drew1 | refine below_set ?_ GE166.out | refine below_set ?_ GE185.out) | exact HB.out)⟩
              · rw [if_neg c13] at H
                exact absurd H (by simp)
          · rw [if_neg c10] at H
            exact absurd H (by simp)
        · rw [if_neg c9] at H
          exact absurd H (by simp)
      · replace c8 := Bool.eq_false_iff.mpr c8
        subst c8
        have H1 : (none) = some r := by rw [if_neg (show ¬ (false = true) by decide)] at H; exact H
        clear H
        have H := H1
        clear H1
        exact absurd H (by simp)
    · rw [if_neg c6] at H
      exact absurd H (by simp)
  · replace c5 := Bool.eq_false_iff.mpr c5
    subst c5
    have H1 : (none) = some r := by rw [if_neg (show ¬ (false = true) by decide)] at H; exact H
    clear H
    have H := H1
    clear H1
    exact absurd H (by simp)

end Go.Proofs.Ytpdlbebiapimoaa.PN
